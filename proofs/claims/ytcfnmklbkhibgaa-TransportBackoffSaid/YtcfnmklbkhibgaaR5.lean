/- TransportBackoff. -/
import Derived.Test.YtcfnmklbkhibgaaR4
namespace Go.Proofs.Ytcfnmklbkhibgaa
open Go.ChangeShapes Go.WideShapes Go.ChangeAt Go.RowKit Go.Deep

set_option maxRecDepth 100000 in
theorem ivl_next (t : Int) (h : 1 ≤ t) : ivl (t + 1) = min (2 * ivl t) 64 := by
  rcases (show t = 1 ∨ t = 2 ∨ t = 3 ∨ 4 ≤ t by omega) with rfl | rfl | rfl | h4
  · decide
  · decide
  · decide
  · have e : ∀ n : Int, 4 ≤ n → ivl n = 64 := fun n hn => by unfold ivl; rw [if_neg (by omega), if_neg (by omega), if_neg (by omega), if_neg (by omega)]
    rw [e t h4, e (t + 1) (by omega)]
    decide
set_option maxRecDepth 100000 in
theorem ivl_ge (t : Int) (h : 1 ≤ t) : 8 ≤ ivl t := by unfold ivl; (repeat' split) <;> omega
structure BSt (H0 : Heap) (g6 g7 : Nat) (L st : Int) (i : Nat) (due tries : Int) (H : Heap) : Prop where
  i_le : i ≤ 400
  ext : Ext H0 H
  s : ∃ A ca B cb, Blk H g6 (sdC ⟨2, true, msg L, due, tries⟩ A ca B cb) 29
  p : ∃ A ca B cb, Blk H g7 (pkC (msg L) A ca B cb) 27
  due_ : st + i < due ∧ due ≤ st + i + 64
  tr : 1 ≤ tries ∧ tries ≤ i + 1
set_option maxRecDepth 100000 in
theorem backoff_walk (lab st : Int) (H : Heap) (hl : 0 ≤ lab ∧ lab ≤ 255) (hst : 0 ≤ st ∧ st ≤ 65535) :
    CallsH Try.prog 3 [.int .u8 lab, .int .u16 st] H fun v H' => v = .bool true ∧ Ext H H' := by
  have ho := offer_msg (lab % 40) st (by omega) (by unfold TimeP; omega)
  have hL : 0 ≤ lab % 40 ∧ lab % 40 < 40 := by omega
  generalize hLe : lab % 40 = L at *
  refine callsH_of Try.func3 rfl Try.ntmps3 (Nat.le_of_ble_eq_true rfl) ?_
  refine wpSeq fun F1 hF1 => ?_
  refine wpRegion ?_
  refine seqQ rfl rfl (yAssign (v := .bool _) rfl rfl) ?_
  refine seqNil ?_
  refine hF1 _ _ ?_; clear hF1
  refine wpSeq fun F2 hF2 => ?_
  refine wpSeq fun F3 hF3 => ?_
  refine wpRegion ?_
  -- e slot 15: call F7<farandole/farandolelaw50.awake> 
  refine seqE rfl rfl (stepCall rfl Try.call7 rfl ?_)
  refine (awake_c _).mono ?_
  rintro v H0 ⟨rfl, hx0⟩
  refine seqQ rfl rfl (yNot rfl rfl) ?_
  refine seqNil ?_
  refine hF3 _ _ ?_; clear hF3
  -- if t16
  refine wpF rfl ?_
  refine wpSkip ?_
  refine hF2 _ _ ?_; clear hF2
  refine wpSeq fun F4 hF4 => ?_
  refine wpRegion ?_
  refine seqQ rfl rfl (yMove (v := .int _ _) rfl rfl) ?_
  refine seqQ rfl rfl (yConv rfl Try.underlying22 Try.underlying3 rfl (IntWalk.i64_in _ (by omega))) ?_
  refine seqQ rfl rfl (yAssign (v := .int _ _) rfl rfl) ?_
  refine seqNil ?_
  refine hF4 _ _ ?_; clear hF4
  refine wpSeq fun F5 hF5 => ?_
  refine wpRegion ?_
  -- e slot 20: call F9<farandole/transport.Start> 
  refine seqE rfl rfl (stepCall rfl Try.call9 rfl ?_)
  refine (start_c _).mono ?_
  rintro v H1 ⟨rfl, hx1⟩
  refine seqQ rfl rfl (yMove (v := .int _ _) rfl rfl) ?_
  refine seqQ rfl rfl (yConv rfl Try.underlying5 Try.underlying3 rfl (IntWalk.i64_in _ (by omega))) ?_
  refine seqQ rfl rfl (yRem rfl rfl rfl (by omega)) ?_
  -- e slot 24: call F10<farandole/farandolelaw50.message> t23
  rw [hLe]
  refine seqE rfl rfl (stepCall rfl Try.call10 rfl ?_)
  refine (message_c L _).mono ?_
  rintro v H2 ⟨rfl, hx2⟩
  refine seqQ rfl rfl (yMove (v := .int _ _) rfl rfl) ?_
  -- e slot 26: call F8<farandole/transport.Offer> t20 t24 t25
  refine seqE rfl rfl (stepCall rfl Try.call8 rfl ?_)
  refine (offer_c sd1 (msg L) st none none none none 0 0 0 0 _ (Rd.nil _ _) (Rd.nil _ _) (Rd.nil _ _) (Rd.nil _ _) (by decide) (by decide) (by simp [msg]) (by simp [msg])).mono ?_
  rintro v H3 ⟨vs, vp, rfl, hs, hp, hx3⟩
  rw [ho] at hs hp ⊢
  obtain ⟨A, ca, B, cb, rfl, -, -⟩ := hs
  obtain ⟨C, cc, D, cd, rfl, -, -⟩ := hp
  have hE := ((hx0.trans hx1).trans hx2).trans hx3
  have s0 := hE.size
  clear hx0 hx1 hx2 hx3
  refine seqQ rfl rfl (yMove (v := .tuple _) rfl rfl) ?_
  refine seqQ rfl rfl (yExtract (v := .agg _) rfl rfl rfl) ?_
  refine seqQ rfl rfl (yExtract (v := .agg _) rfl rfl rfl) ?_
  refine seqQ rfl rfl (yExtract (v := .int _ _) rfl rfl rfl) ?_
  refine seqN rfl rfl (nAlloc rfl Try.zeroValue29 rfl) (fun g6 H6 hx6 hB6 hg6 hl6 => ?_)
  refine seqN rfl rfl (nAlloc rfl Try.zeroValue27 rfl) (fun g7 H7 hx7 hB7 hg7 hl7 => ?_)
  -- e slot None: store T29 t6 t27
  refine seqE0 rfl rfl (stepStoreB rfl (by kernel_rfl) rfl rfl rfl (hB6.ext hx7) rfl ?_)
  intro Ha hBa hKa
  -- e slot None: store T27 t7 t28
  refine seqE0 rfl rfl (stepStoreB rfl (by kernel_rfl) rfl rfl rfl (hB7.keep hKa (by simp; omega)) rfl ?_)
  intro Hb hBb hKb
  have s6 := hx6.size
  have s7 := hx7.size
  replace hBa := hBa.keep hKb (by simp; omega)
  replace hE := (((hE.trans hx6).trans hx7).mine hKa (by simp; omega)).mine hKb (by simp; omega)
  have hlt6 := hBa.lt
  have hlt7 := hBb.lt
  have hg6' : H.size ≤ g6 := by omega
  have hne : g6 ≠ g7 := by omega
  have st0 : BSt H g6 g7 L st 0 (st + 8) 1 Hb := ⟨by omega, hE, ⟨A, ca, B, cb, hBa⟩, ⟨C, cc, D, cd, hBb⟩, by omega, by omega⟩
  have hg7' : H.size ≤ g7 := by omega
  clear hx6 hx7 hB6 hB7 hKa hKb hBa hBb hE s0 s6 s7 hg6 hg7 hl6 hl7 hlt6 hlt7
  refine seqQ rfl rfl (yAssign (v := .int _ _) rfl rfl) ?_
  refine seqNil ?_
  refine hF5 _ _ ?_; clear hF5
  refine wpSeq fun F6 hF6 => ?_
  refine wpSeq fun F7 hF7 => ?_
  refine wpRegion ?_
  refine seqQ rfl rfl (yMove (v := .int _ _) rfl rfl) ?_
  refine seqQ rfl rfl (yNeq rfl rfl rfl) ?_
  refine seqNil ?_
  refine hF7 _ _ ?_; clear hF7
  -- if t31
  refine wpF rfl ?_
  refine wpSkip ?_
  refine hF6 _ _ ?_; clear hF6
  refine wpSeq fun F8 hF8 => ?_
  refine wpRegion ?_
  refine seqQ rfl rfl (yMove (v := .int _ _) rfl rfl) ?_
  refine seqQ rfl rfl (yAdd rfl rfl rfl (by unfold In64; omega)) ?_
  refine seqQ rfl rfl (yAssign (v := .int _ _) rfl rfl) ?_
  refine seqQ rfl rfl (yAssign (v := .int _ _) rfl rfl) ?_
  refine seqNil ?_
  refine hF8 _ _ ?_; clear hF8
  refine wpSeq fun F9 hF9 => ?_
  refine wpSeq fun F10 hF10 => ?_
  refine wpRegion ?_
  refine seqQ rfl rfl (yAssign (v := .int _ _) rfl rfl) ?_
  refine seqNil ?_
  refine hF10 _ _ ?_; clear hF10
  -- loop
  refine wpBlock ?_
  refine wpLoopS [4, 5, 9, 10, 11, 12, 13, 14, 34, 35, 36, 37, 38, 39, 40, 41, 42, 43, 44, 45, 46, 47, 48, 49, 50, 51, 52, 53, 54, 55, 56, 57, 58, 59, 60, 61, 62, 63, 64, 65, 66, 67, 68] (fun x : Nat × Int × Int => [(5, .int .i64 (st + x.1)), (9, .int .i64 x.2.1), (10, .int .i64 (ivl x.2.2)), (11, .int .i64 x.1)]) (fun x H' => BSt H g6 g7 L st x.1 x.2.1 x.2.2 H') (fun x => 400 - x.1) (0, st + 8, 1) ⟨congrArg (Value.int .i64) (by simp), rfl, rfl, rfl, trivial⟩ st0 ?_
  rintro ⟨i, due, tries⟩ J1 H1 st1
  dsimp only at st1 ⊢
  clear st0
  refine wpSeq fun F11 hF11 => ?_
  refine wpSeq fun F12 hF12 => ?_
  refine wpRegion ?_
  refine seqQ rfl rfl (yMove (v := .int _ _) rfl rfl) ?_
  refine seqQ rfl rfl (yLss rfl rfl rfl) ?_
  refine seqNil ?_
  refine hF12 _ _ ?_; clear hF12
  -- if t35
  refine wpIf rfl (fun hi => ?_) (fun hi => ?_)
  · skip
    have hi : i < 400 := by omega
    obtain ⟨i_le, hE, ⟨A, ca, B, cb, hB6⟩, ⟨C, cc, D, cd, hB7⟩, hdue, htr⟩ := st1
    have hr := resend_msg L due tries (st + i + 1) hL (by unfold TimeP; omega) (by omega) (by omega)
    have hiv := ivl_range (tries + 1)
    have hiv0 := ivl_range tries
    have hnx := ivl_next tries htr.1
    refine wpSkip ?_
    refine hF11 _ _ ?_; clear hF11
    refine wpSeq fun F13 hF13 => ?_
    refine wpBlock ?_
    refine wpSeq fun F14 hF14 => ?_
    refine wpRegion ?_
    refine seqQ rfl rfl (yMove (v := .int _ _) rfl rfl) ?_
    refine seqQ rfl rfl (yAdd rfl rfl rfl (by unfold In64; omega)) ?_
    refine seqQ rfl rfl (yAssign (v := .int _ _) rfl rfl) ?_
    refine seqNil ?_
    refine hF14 _ _ ?_; clear hF14
    refine wpSeq fun F15 hF15 => ?_
    refine wpRegion ?_
    refine seqQ rfl rfl (yLoadB hB6 rfl Try.underlying29 rfl Try.sizeOf29 rfl) ?_
    refine seqQ rfl rfl (yMove (v := .int _ _) rfl rfl) ?_
    -- e slot 43: call F11<farandole/transport.Resend> t41 t42
    refine seqE rfl rfl (stepCall rfl Try.call11 rfl ?_)
    refine (resend_c ⟨2, true, msg L, due, tries⟩ (st + i + 1) A B ca cb _ (Rd.nil _ _) (Rd.nil _ _) (by simp [msg]) (by simp [msg])).mono ?_
    rintro v H2 ⟨vs, vp, rfl, hs, hp, hx2⟩
    rw [show min (ivl (tries + 1)) 64 = ivl (tries + 1) by omega] at hr
    have s2 := hx2.size
    have hl6 := hB6.lt
    have hl7 := hB7.lt
    replace hB6 := hB6.ext hx2
    replace hB7 := hB7.ext hx2
    replace hE := hE.trans hx2
    by_cases hd : due = st + i + 1
    · rw [hr, if_pos (by omega)] at hs hp ⊢
      obtain ⟨A1, ca1, B1, cb1, rfl, -, -⟩ := hs
      obtain ⟨C1, cc1, D1, cd1, rfl, -, -⟩ := hp
      refine seqQ rfl rfl (yMove (v := .tuple _) rfl rfl) ?_
      refine seqQ rfl rfl (yExtract (v := .agg _) rfl rfl rfl) ?_
      refine seqQ rfl rfl (yExtract (v := .agg _) rfl rfl rfl) ?_
      refine seqQ rfl rfl (yExtract (v := .bool _) rfl rfl rfl) ?_
      refine seqN rfl rfl (nAlloc rfl Try.zeroValue29 rfl) (fun g12 H12 hx12 hB12 hg12 hl12 => ?_)
      refine seqN rfl rfl (nAlloc rfl Try.zeroValue27 rfl) (fun g13 H13 hx13 hB13 hg13 hl13 => ?_)
      -- e slot None: store T29 t12 t44
      refine seqE0 rfl rfl (stepStoreB rfl (by kernel_rfl) rfl rfl rfl (hB12.ext hx13) rfl ?_)
      intro H3 hB12' hK3
      -- e slot None: store T27 t13 t45
      refine seqE0 rfl rfl (stepStoreB rfl (by kernel_rfl) rfl rfl rfl (hB13.keep hK3 (by simp; omega)) rfl ?_)
      intro H4 hB13' hK4
      have s12 := hx12.size
      have s13 := hx13.size
      replace hB12 := hB12'.keep hK4 (by simp; omega)
      replace hB13 := hB13'
      replace hB6 := (((hB6.ext hx12).ext hx13).keep hK3 (by simp; omega)).keep hK4 (by simp; omega)
      replace hB7 := (((hB7.ext hx12).ext hx13).keep hK3 (by simp; omega)).keep hK4 (by simp; omega)
      replace hE := (((hE.trans hx12).trans hx13).mine hK3 (by simp; omega)).mine hK4 (by simp; omega)
      clear hx12 hx13 hK3 hK4 hB12' hB13'
      refine seqQ rfl rfl (yAssign (v := .bool _) rfl rfl) ?_
      refine seqNil ?_
      refine hF15 _ _ ?_; clear hF15
      refine wpSeq fun F16 hF16 => ?_
      refine wpSeq fun F17 hF17 => ?_
      refine wpRegion ?_
      refine seqQ rfl rfl (yMove (v := .bool _) rfl rfl) ?_
      refine seqQ rfl rfl (yMove (v := .int _ _) rfl rfl) ?_
      refine seqQ rfl rfl (yMove (v := .int _ _) rfl rfl) ?_
      refine seqQ rfl rfl (yEql rfl rfl rfl) ?_
      refine seqQ rfl rfl (yNeqB rfl Try.underlying4 rfl rfl) ?_
      -- guard t52
      rw [show (!(true == decide (st + (i : Int) + 1 = due))) = false by simp [hd]]
      refine seqQ rfl rfl (yMove (v := .bool false) rfl rfl) ?_
      refine seqQ rfl rfl (yMove (v := .bool _) rfl rfl) ?_
      refine seqQ rfl rfl (yMove (v := .bool true) rfl rfl) ?_
      refine seqQ rfl rfl (yLoadB hB7 rfl Try.underlying27 rfl Try.sizeOf27 rfl) ?_
      refine seqQ rfl rfl (yLoadB hB13 rfl Try.underlying27 rfl Try.sizeOf27 rfl) ?_
      -- e slot 57: call F12<farandole/packet.Equal> t55 t56
      refine seqE rfl rfl (stepCall rfl Try.call12 rfl ?_)
      refine (pkEqual_c (msg L) (msg L) C D C1 D1 cc cd cc1 cd1 _ (Rd.nil _ _) (Rd.nil _ _) (Rd.nil _ _) (Rd.nil _ _) (by simp [msg]) (by simp [msg])).mono ?_
      rintro v H5 ⟨rfl, hx5⟩
      rw [decide_eq_true (rfl : msg L = msg L)]
      replace hB6 := hB6.ext hx5
      replace hB7 := hB7.ext hx5
      replace hB12 := hB12.ext hx5
      replace hE := hE.trans hx5
      refine seqQ rfl rfl (yNot rfl rfl) ?_
      refine seqQ rfl rfl (yPickT (v := .bool _) rfl rfl rfl) ?_
      refine seqQ rfl rfl (yPickF (v := .bool _) rfl rfl rfl) ?_
      refine seqNil ?_
      refine hF17 _ _ ?_; clear hF17
      -- if t60
      refine wpF rfl ?_
      refine wpSkip ?_
      refine hF16 _ _ ?_; clear hF16
      refine wpSeq fun F18 hF18 => ?_
      refine wpRegion ?_
      refine seqQ rfl rfl (yLoadB hB12 rfl Try.underlying29 rfl Try.sizeOf29 rfl) ?_
      -- e slot None: store T29 t6 t61
      refine seqE0 rfl rfl (stepStoreB rfl (by kernel_rfl) rfl rfl rfl hB6 rfl ?_)
      intro H6 hB6' hK6
      replace hB7 := hB7.keep hK6 (by simp; omega)
      replace hE := hE.mine hK6 (by simp; omega)
      refine seqNil ?_
      refine hF18 _ _ ?_; clear hF18
      refine wpSeq fun F19 hF19 => ?_
      refine wpRegion ?_
      refine seqQ rfl rfl (yMove (v := .bool _) rfl rfl) ?_
      refine seqNil ?_
      refine hF19 _ _ ?_; clear hF19
      -- if t62
      refine wpT rfl ?_
      refine wpSeq fun F20 hF20 => ?_
      refine wpRegion ?_
      refine seqQ rfl rfl (yMove (v := .int _ _) rfl rfl) ?_
      refine seqQ rfl rfl (yMul rfl rfl rfl (by unfold In64; omega)) ?_
      refine seqQ rfl rfl (yMin rfl rfl rfl) ?_
      refine seqQ rfl rfl (yAssign (v := .int _ _) rfl rfl) ?_
      refine seqNil ?_
      refine hF20 _ _ ?_; clear hF20
      refine wpRegion ?_
      refine seqQ rfl rfl (yMove (v := .int _ _) rfl rfl) ?_
      refine seqQ rfl rfl (yMove (v := .int _ _) rfl rfl) ?_
      refine seqQ rfl rfl (yAdd rfl rfl rfl (by unfold In64; omega)) ?_
      refine seqQ rfl rfl (yAssign (v := .int _ _) rfl rfl) ?_
      refine seqNil ?_
      refine hF13 _ _ ?_; clear hF13
      refine wpRegion ?_
      refine seqQ rfl rfl (yMove (v := .int _ _) rfl rfl) ?_
      refine seqQ rfl rfl (yAdd rfl rfl rfl (by unfold In64; omega)) ?_
      refine seqQ rfl rfl (yAssign (v := .int _ _) rfl rfl) ?_
      refine seqNil ?_
      -- end loop
      exact loopEnd (i + 1, st + i + 1 + ivl (tries + 1), tries + 1) (by repeat (first | (with_reducible exact Agree.refl _ _) | refine Agree.upd ?_ rfl | refine Agree.over ?_ rfl)) (by show 400 - (i + 1) < 400 - i; omega) ⟨congrArg (Value.int .i64) (by simp; omega), congrArg (Value.int .i64) (by rw [hnx]), congrArg (Value.int .i64) hnx.symm, rfl, trivial⟩ ⟨by show i + 1 ≤ 400; omega, hE, ⟨A1, ca1, B1, cb1, hB6'⟩, ⟨C, cc, D, cd, hB7⟩, by have : 8 ≤ ivl (tries + 1) := (ivl_ge _ (by omega)); simp; omega, by simp; omega⟩
    · rw [hr, if_neg (by omega)] at hs hp ⊢
      obtain ⟨A1, ca1, B1, cb1, rfl, -, -⟩ := hs
      obtain ⟨C1, cc1, D1, cd1, rfl, -, -⟩ := hp
      refine seqQ rfl rfl (yMove (v := .tuple _) rfl rfl) ?_
      refine seqQ rfl rfl (yExtract (v := .agg _) rfl rfl rfl) ?_
      refine seqQ rfl rfl (yExtract (v := .agg _) rfl rfl rfl) ?_
      refine seqQ rfl rfl (yExtract (v := .bool _) rfl rfl rfl) ?_
      refine seqN rfl rfl (nAlloc rfl Try.zeroValue29 rfl) (fun g12 H12 hx12 hB12 hg12 hl12 => ?_)
      refine seqN rfl rfl (nAlloc rfl Try.zeroValue27 rfl) (fun g13 H13 hx13 hB13 hg13 hl13 => ?_)
      -- e slot None: store T29 t12 t44
      refine seqE0 rfl rfl (stepStoreB rfl (by kernel_rfl) rfl rfl rfl (hB12.ext hx13) rfl ?_)
      intro H3 hB12' hK3
      -- e slot None: store T27 t13 t45
      refine seqE0 rfl rfl (stepStoreB rfl (by kernel_rfl) rfl rfl rfl (hB13.keep hK3 (by simp; omega)) rfl ?_)
      intro H4 hB13' hK4
      have s12 := hx12.size
      have s13 := hx13.size
      replace hB12 := hB12'.keep hK4 (by simp; omega)
      replace hB13 := hB13'
      replace hB6 := (((hB6.ext hx12).ext hx13).keep hK3 (by simp; omega)).keep hK4 (by simp; omega)
      replace hB7 := (((hB7.ext hx12).ext hx13).keep hK3 (by simp; omega)).keep hK4 (by simp; omega)
      replace hE := (((hE.trans hx12).trans hx13).mine hK3 (by simp; omega)).mine hK4 (by simp; omega)
      clear hx12 hx13 hK3 hK4 hB12' hB13'
      refine seqQ rfl rfl (yAssign (v := .bool _) rfl rfl) ?_
      refine seqNil ?_
      refine hF15 _ _ ?_; clear hF15
      refine wpSeq fun F21 hF21 => ?_
      refine wpSeq fun F22 hF22 => ?_
      refine wpRegion ?_
      refine seqQ rfl rfl (yMove (v := .bool _) rfl rfl) ?_
      refine seqQ rfl rfl (yMove (v := .int _ _) rfl rfl) ?_
      refine seqQ rfl rfl (yMove (v := .int _ _) rfl rfl) ?_
      refine seqQ rfl rfl (yEql rfl rfl rfl) ?_
      refine seqQ rfl rfl (yNeqB rfl Try.underlying4 rfl rfl) ?_
      -- guard t52
      rw [show (!(false == decide (st + (i : Int) + 1 = due))) = false by simp; omega]
      refine seqQ rfl rfl (yMove (v := .bool false) rfl rfl) ?_
      refine seqQ rfl rfl (yMove (v := .bool _) rfl rfl) ?_
      refine seqQ rfl rfl (yMove (v := .bool false) rfl rfl) ?_
      refine seqU rfl rfl ?_
      refine seqU rfl rfl ?_
      refine seqU rfl rfl ?_
      refine seqU rfl rfl ?_
      refine seqQ rfl rfl (yPickF (v := .bool _) rfl rfl rfl) ?_
      refine seqQ rfl rfl (yPickF (v := .bool _) rfl rfl rfl) ?_
      refine seqNil ?_
      refine hF22 _ _ ?_; clear hF22
      -- if t60
      refine wpF rfl ?_
      refine wpSkip ?_
      refine hF21 _ _ ?_; clear hF21
      refine wpSeq fun F23 hF23 => ?_
      refine wpRegion ?_
      refine seqQ rfl rfl (yLoadB hB12 rfl Try.underlying29 rfl Try.sizeOf29 rfl) ?_
      -- e slot None: store T29 t6 t61
      refine seqE0 rfl rfl (stepStoreB rfl (by kernel_rfl) rfl rfl rfl hB6 rfl ?_)
      intro H6 hB6' hK6
      replace hB7 := hB7.keep hK6 (by simp; omega)
      replace hE := hE.mine hK6 (by simp; omega)
      refine seqNil ?_
      refine hF23 _ _ ?_; clear hF23
      refine wpSeq fun F24 hF24 => ?_
      refine wpRegion ?_
      refine seqQ rfl rfl (yMove (v := .bool _) rfl rfl) ?_
      refine seqNil ?_
      refine hF24 _ _ ?_; clear hF24
      -- if t62
      refine wpF rfl ?_
      refine wpSkip ?_
      refine hF13 _ _ ?_; clear hF13
      refine wpRegion ?_
      refine seqQ rfl rfl (yMove (v := .int _ _) rfl rfl) ?_
      refine seqQ rfl rfl (yAdd rfl rfl rfl (by unfold In64; omega)) ?_
      refine seqQ rfl rfl (yAssign (v := .int _ _) rfl rfl) ?_
      refine seqNil ?_
      -- end loop
      exact loopEnd (i + 1, due, tries) (by repeat (first | (with_reducible exact Agree.refl _ _) | refine Agree.upd ?_ rfl | refine Agree.over ?_ rfl)) (by show 400 - (i + 1) < 400 - i; omega) ⟨congrArg (Value.int .i64) (by simp; omega), rfl, rfl, rfl, trivial⟩ ⟨by show i + 1 ≤ 400; omega, hE, ⟨A1, ca1, B1, cb1, hB6'⟩, ⟨C, cc, D, cd, hB7⟩, by simp; omega, by simp; omega⟩
  · skip
    refine wpExit ?_
    refine hF9 _ _ ?_; clear hF9
    refine wpSeq fun F25 hF25 => ?_
    refine wpRegion ?_
    refine seqQ rfl rfl (yAssign (v := .bool _) rfl rfl) ?_
    refine seqNil ?_
    refine hF25 _ _ ?_; clear hF25
    -- ret
    refine wpRet (fin1 (v := .bool _) rfl rfl ?_)
    exact ⟨rfl, st1.ext⟩
end Go.Proofs.Ytcfnmklbkhibgaa
