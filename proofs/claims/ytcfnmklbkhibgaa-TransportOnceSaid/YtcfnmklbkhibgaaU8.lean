/- TransportOnce. -/
import Derived.Test.YtcfnmklbkhibgaaU7
import Derived.Test.YtcfnmklbkhibgaaR4
namespace Go.Proofs.Ytcfnmklbkhibgaa
open Go.ChangeShapes Go.WideShapes Go.ChangeAt Go.RowKit Go.Deep

/-- The world at the start. -/
def wd0 (p q : List UInt8) : Wd := ⟨sd1, 0, ⟨p, 0, 0, []⟩, ⟨q, 0, 0, []⟩, 0, 0, 0, []⟩
def wx0 : WX := ⟨none, 0, none, 0, lh0, lh0, none, 0⟩
set_option maxRecDepth 100000 in
theorem ti0 {p q : List UInt8} (hp : p.length ≤ 200) (hq : q.length ≤ 200) : TI 0 0 (wd0 p q) where
  now := by simp [wd0]
  off := by simp [wd0]
  next := rfl
  busy := fun h => by cases h
  idle := fun _ => ⟨rfl, rfl, rfl, rfl, rfl⟩
  dlvl := rfl
  dlv := fun i h => by simp [wd0] at h
  vout := ⟨hp, by simp [wd0], by simp [wd0], by simp [wd0], fun k h => by simp [wd0] at h⟩
  nout := rfl
  sout := Int.le_refl _
  fout := fun y hy => by simp [wd0] at hy
  vback := ⟨hq, by simp [wd0], by simp [wd0], by simp [wd0], fun k h => by simp [wd0] at h⟩
  nback := rfl
  sback := Int.le_refl _
  fback := fun y hy => by simp [wd0] at hy
set_option maxRecDepth 100000 in
theorem wm0 {gw : Nat} {H : Heap} (hB : Blk H gw (wdC (wd0 [] []) wx0) 67) : WM gw (gw + 1) (wd0 [] []) wx0 H :=
  ⟨hB, rfl, rfl, ⟨RdM.none _ _ _, RdM.none _ _ _, (fun x hx => by cases hx), Nat.le_refl _⟩, ⟨RdM.none _ _ _, RdM.none _ _ _, (fun x hx => by cases hx), Nat.le_refl _⟩, ⟨by decide, by decide, fun x hx => by cases hx⟩, ⟨by decide, by decide, fun x hx => by cases hx⟩, Own.nil _ _, Nat.lt_succ_self _, hB.lt, rfl, rfl⟩
set_option maxRecDepth 100000 in
theorem once_walk (A B : Option Addr) (ca cb : Nat) (p q : List UInt8) (a c : Int) (H : Heap) (hA : Rd eByte H A p) (hB : Rd eByte H B q) (ha : 0 ≤ a ∧ a ≤ 255) (hc : 0 ≤ c ∧ c ≤ 255) :
    CallsH Try.prog 5 [.slice A p.length ca, .slice B q.length cb, .agg #[.int .u8 a, .int .u8 c]] H fun v H' => v = .bool true ∧ Ext H H' := by
  refine callsH_of Try.func5 rfl Try.ntmps5 (Nat.le_of_ble_eq_true rfl) ?_
  refine wpSeq fun F1 hF1 => ?_
  refine wpRegion ?_
  refine seqN rfl rfl (nBoxA rfl rfl) (fun g5 H5 hx5 hB5 hg5 hl5 => ?_)
  refine seqQ rfl rfl (yAssign (v := .bool _) rfl rfl) ?_
  refine seqNil ?_
  refine hF1 _ _ ?_; clear hF1
  refine wpSeq fun F2 hF2 => ?_
  refine wpSeq fun F3 hF3 => ?_
  refine wpRegion ?_
  -- e slot 13: call F7<farandole/farandolelaw50.awake> 
  refine seqE rfl rfl (stepCall rfl Try.call7 rfl ?_)
  refine (tpAwake_c _).mono ?_
  rintro v H1 ⟨rfl, x1⟩
  replace hB5 := hB5.ext x1
  have hE := hx5.trans x1
  clear x1 hx5
  refine seqQ rfl rfl (yNot rfl rfl) ?_
  refine seqNil ?_
  refine hF3 _ _ ?_; clear hF3
  -- if t14
  refine wpF rfl ?_
  refine wpSkip ?_
  refine hF2 _ _ ?_; clear hF2
  refine wpSeq fun F4 hF4 => ?_
  refine wpSeq fun F5 hF5 => ?_
  refine wpRegion ?_
  refine seqQ rfl rfl (yMove (v := .slice _ _ _) rfl rfl) ?_
  refine seqQ rfl rfl (yLen rfl Try.underlying58 rfl) ?_
  refine seqQ rfl rfl (yGtr rfl rfl rfl) ?_
  -- guard t18
  refine seqMeet 8 [18, 19, 20, 21, 22] 22 (decide ((p.length : Int) > 20 ∨ (q.length : Int) > 20)) (fun hm6 => ?_) (fun J6 => ?_)
  · skip
    first | refine seqG rfl rfl rfl rfl (fun h18 => ?_) (fun h18 => ?_) | refine seqGB rfl rfl rfl rfl (fun h18 => ?_) (fun h18 => ?_)
    · skip
      refine seqU rfl rfl ?_
      refine seqU rfl rfl ?_
      refine seqU rfl rfl ?_
      refine seqQ rfl rfl (yPickT (v := .bool _) rfl rfl rfl) ?_
      exact hm6 _ (by repeat (first | (with_reducible exact Agree.refl _ _) | refine Agree.upd ?_ rfl | refine Agree.over ?_ rfl)) (by show Value.bool _ = Value.bool _; congr 1; grind)
    · skip
      refine seqQ rfl rfl (yMove (v := .slice _ _ _) rfl rfl) ?_
      refine seqQ rfl rfl (yLen rfl Try.underlying58 rfl) ?_
      refine seqQ rfl rfl (yGtr rfl rfl rfl) ?_
      refine seqQ rfl rfl (yPickF (v := .bool _) rfl rfl rfl) ?_
      exact hm6 _ (by repeat (first | (with_reducible exact Agree.refl _ _) | refine Agree.upd ?_ rfl | refine Agree.over ?_ rfl)) (by show Value.bool _ = Value.bool _; congr 1; grind)
  refine seqNil ?_
  refine hF5 _ _ ?_; clear hF5
  -- if t22
  refine wpIf rfl (fun hbig => ?_) (fun hbig => ?_)
  · skip
    refine wpSeq fun F7 hF7 => ?_
    refine wpRegion ?_
    refine seqQ rfl rfl (yAssign (v := .bool _) rfl rfl) ?_
    refine seqNil ?_
    refine hF7 _ _ ?_; clear hF7
    -- ret
    refine wpRet (fin1 (v := .bool _) rfl rfl ?_)
    exact ⟨rfl, hE⟩
  · skip
    have hp20 : p.length ≤ 20 := by omega
    have hq20 : q.length ≤ 20 := by omega
    refine wpSkip ?_
    refine hF4 _ _ ?_; clear hF4
    refine wpSeq fun F8 hF8 => ?_
    refine wpRegion ?_
    -- e slot 23: call F9<farandole/transport.Start> 
    refine seqE rfl rfl (stepCall rfl Try.call9 rfl ?_)
    refine (start_c H1).mono ?_
    rintro v Ha ⟨rfl, xa⟩
    refine seqQ rfl rfl (yBuild (pl := [(0, 13), (13, 1), (14, 4), (18, 4), (22, 1), (23, 1), (24, 1), (25, 1), (26, 1)]) (vs := [(0, .agg _)]) rfl Try.underlying67 Try.zeroValue67 rfl (by unfold Places; kernel_rfl) rfl rfl) ?_
    refine seqN rfl rfl (nBoxA rfl rfl) (fun g25 H25 hx25 hB25 hg25 hl25 => ?_)
    refine seqQ rfl rfl (yAssign (v := .pointer _) rfl rfl) ?_
    refine seqNil ?_
    refine hF8 _ _ ?_; clear hF8
    refine wpSeq fun F9 hF9 => ?_
    refine wpRegion ?_
    refine seqQ rfl rfl (yMove (v := .slice _ _ _) rfl rfl) ?_
    -- e slot 28: call F24<farandole/link.New> t27
    have hw0 : WM g25 (g25 + 1) (wd0 [] []) wx0 H25 := wm0 hB25
    have h5 := (hB5.ext xa).ext hx25
    have hne5 : g5 ≠ g25 := by have := hB5.lt; have := xa.size; omega
    have hgH : H.size ≤ g25 := by have := hE.size; have := xa.size; omega
    replace hE := (hE.trans xa).trans hx25
    clear hB5 hB25 hx25 xa
    have en1 : newL p = (0, ⟨p, 0, 0, []⟩) := if_neg (by omega)
    have en2 : newL q = (0, ⟨q, 0, 0, []⟩) := if_neg (by omega)
    have hg := hl25
    refine seqE rfl rfl (stepCall rfl Try.call24 rfl ?_)
    refine (new_c A ca p H25 (hA.ext hE) (by omega)).mono ?_
    rintro v Hb ⟨L1, rfl, eL1, nL1, xb⟩
    rw [en1] at eL1 ⊢
    dsimp only at eL1 ⊢
    refine seqQ rfl rfl (yMove (v := .tuple _) rfl rfl) ?_
    refine seqQ rfl rfl (yExtract (v := .agg _) rfl rfl rfl) ?_
    refine seqQ rfl rfl (yExtract (v := .int _ _) rfl rfl rfl) ?_
    refine seqN rfl rfl (nAlloc rfl Try.zeroValue65 rfl) (fun g8 H8 hx8 hB8 hg8 hl8 => ?_)
    -- e slot None: store T65 t8 t29
    refine seqE0 rfl rfl (stepStoreB rfl (by kernel_rfl) rfl rfl rfl hB8 rfl ?_)
    intro Hc h8 hKc
    have xc : Ext Hb Hc := hx8.mine hKc (by simp; omega)
    clear hB8 hKc hx8
    have hg8 : g8 ≠ g25 := by have := xb.size; omega
    refine seqQ rfl rfl (yAssign (v := .int _ _) rfl rfl) ?_
    refine seqNil ?_
    refine hF9 _ _ ?_; clear hF9
    refine wpSeq fun F10 hF10 => ?_
    refine wpRegion ?_
    refine seqQ rfl rfl (yMove (v := .slice _ _ _) rfl rfl) ?_
    -- e slot 33: call F24<farandole/link.New> t32
    refine seqE rfl rfl (stepCall rfl Try.call24 rfl ?_)
    refine (new_c B cb q Hc (hB.ext ((hE.trans xb).trans xc)) (by omega)).mono ?_
    rintro v Hd ⟨L2, rfl, eL2, nL2, xd⟩
    rw [en2] at eL2 ⊢
    dsimp only at eL2 ⊢
    refine seqQ rfl rfl (yMove (v := .tuple _) rfl rfl) ?_
    refine seqQ rfl rfl (yExtract (v := .agg _) rfl rfl rfl) ?_
    refine seqQ rfl rfl (yExtract (v := .int _ _) rfl rfl rfl) ?_
    refine seqN rfl rfl (nAlloc rfl Try.zeroValue65 rfl) (fun g10 H10 hx10 hB10 hg10 hl10 => ?_)
    -- e slot None: store T65 t10 t34
    refine seqE0 rfl rfl (stepStoreB rfl (by kernel_rfl) rfl rfl rfl hB10 rfl ?_)
    intro He h10 hKe
    have xe : Ext Hd He := hx10.mine hKe (by simp; omega)
    clear hB10 hKe hx10
    have hg10 : g10 ≠ g25 := by have := xb.size; have := xc.size; have := xd.size; omega
    have xx := ((xb.trans xc).trans xd).trans xe
    have hwe := hw0.ext xx
    replace h5 := h5.ext xx
    replace h8 := (h8.ext xd).ext xe
    replace hE := hE.trans xx
    have hM0 : ∀ y ∈ wT g25 (wd0 [] []) wx0, y < H25.size := fun y hy => (hw0.lt y hy).2
    have ml1 : LkM (wT g25 (wd0 [] []) wx0) He L1 := (nL1.m hM0).tr (Tr.of_ext ((xc.trans xd).trans xe) _)
    have ml2 : LkM (wT g25 (wd0 [] []) wx0) He L2 := (nL2.m fun y hy => Nat.lt_of_lt_of_le (hM0 y hy) (Nat.le_trans xb.size xc.size)).tr (Tr.of_ext xe _)
    have sm1 : LkSm L1 := sm_of eL1 (by show p.length ≤ _; omega) (by simp) (by simp)
    have sm2 : LkSm L2 := sm_of eL2 (by show q.length ≤ _; omega) (by simp) (by simp)
    have hge := hwe.blk.lt
    clear nL1 nL2 xb xc xd xe xx hw0
    refine seqQ rfl rfl (yAssign (v := .int _ _) rfl rfl) ?_
    refine seqNil ?_
    refine hF10 _ _ ?_; clear hF10
    refine wpSeq fun F11 hF11 => ?_
    refine wpRegionD Try_mixed [.q, .q, .q, .q, .q, .q, .q, .q, .q, .q, .q, .q, .q, .e, .q, .q, .e, .q, .q, .e] 17 [0, 0, 0, 0, 0, 0, 32, 96, 224, 480, 992, 9, 2057, 6377, 14587, 30971, 63739, 131071, 262143, 524287] [g25] (by kernel_rfl) _ rfl [0, 1, 2, 3, 4, 5, 6, 7, 8, 9, 10, 11, 12, 13, 14, 15, 16] rfl (by simp; omega) ?_
    refine lexQ rfl rfl rfl rfl (fun H hM => (yMove (v := .pointer _) rfl rfl)) ?_
    refine lexQ rfl rfl rfl rfl (fun H hM => (yMove (v := .pointer _) rfl rfl)) ?_
    refine lexQ rfl rfl rfl rfl (fun H hM => (yMove (v := .pointer _) rfl rfl)) ?_
    refine lexQ rfl rfl rfl rfl (fun H hM => (yLoadB (h8.keep hM (by simp; omega)) rfl Try.underlying65 rfl Try.sizeOf65 rfl)) ?_
    refine lexQ rfl rfl rfl rfl (fun H hM => (yLoadB (h10.keep hM (by simp; omega)) rfl Try.underlying65 rfl Try.sizeOf65 rfl)) ?_
    refine lexQ rfl rfl rfl rfl (fun H hM => (yMove (v := .int _ _) rfl rfl)) ?_
    refine lexQ rfl rfl rfl rfl (fun H hM => (yNeq rfl rfl rfl)) ?_
    refine lexQ rfl rfl rfl rfl (fun H hM => (yMove (v := .bool false) rfl rfl)) ?_
    refine lexQ rfl rfl rfl rfl (fun H hM => (yMove (v := .int _ _) rfl rfl)) ?_
    refine lexQ rfl rfl rfl rfl (fun H hM => (yNeq rfl rfl rfl)) ?_
    refine lexQ rfl rfl rfl rfl (fun H hM => (yPickF (v := .bool _) rfl rfl rfl)) ?_
    refine lexQ rfl rfl rfl rfl (fun H hM => (yNilCheck rfl rfl)) ?_
    refine lexQ rfl rfl rfl rfl (fun H hM => (yFieldAddr rfl Try.underlying67 rfl Try.sizeOf65 rfl rfl)) ?_
    -- e slot None: store T65 t48 t39
    rw [show (!decide ((0 : Int) = 0)) = false from rfl]
    refine lexE00 rfl rfl rfl rfl rfl (fun hMNone => stepStoreSeg rfl (by kernel_rfl) rfl rfl rfl hwe.blk (Nat.le_of_ble_eq_true rfl) ?_)
    intro H6 hB6 hK6
    refine lexSt hK6 (by simp) (by simp; omega) ?_
    obtain ⟨hm6, tt6⟩ := hwe.outL (L := L1) (l := ⟨p, 0, 0, []⟩) ml1 sm1 eL1 hK6 hB6
    refine lexQ rfl rfl rfl rfl (fun H hM => (yNilCheck rfl rfl)) ?_
    refine lexQ rfl rfl rfl rfl (fun H hM => (yFieldAddr rfl Try.underlying67 rfl Try.sizeOf65 rfl rfl)) ?_
    -- e slot None: store T65 t50 t40
    refine lexE00 rfl rfl rfl rfl rfl (fun hMNone => stepStoreSeg rfl (by kernel_rfl) rfl rfl rfl hm6.blk (Nat.le_of_ble_eq_true rfl) ?_)
    intro H7 hB7 hK7
    refine lexSt hK7 (by simp) (by have := hK6.size; simp; omega) ?_
    obtain ⟨hm7, tt7⟩ := hm6.back (L := L2) (l := ⟨q, 0, 0, []⟩) (ml2.tr tt6) sm2 eL2 hK7 hB7
    -- tail
    refine lexNil0 rfl (fun hM => ?_)
    refine seqQ rfl rfl (yNilCheck rfl rfl) ?_
    refine seqQ rfl rfl (yFieldAddr rfl Try.underlying67 rfl Try.sizeOf4 rfl rfl) ?_
    -- e slot None: store T4 t52 t46
    refine seqE0 rfl rfl (stepStoreSame (v := .bool false) rfl Try.sizeOf4 rfl rfl rfl rfl hm7.blk (j := 26) rfl ?_)
    have hKw := hK6.trans hK7
    have h5' := h5.keep hKw (by simpa using hne5)
    have hE7 := hE.mine hKw (by simpa using hgH)
    have hti : TI 0 0 (wd0 p q) := ti0 (by omega) (by omega)
    obtain ⟨x7, hm7⟩ : ∃ x', WM g25 (g25 + 1) (wd0 p q) x' H7 ∧ wT g25 (wd0 p q) x' = [g25] := ⟨_, hm7, rfl⟩
    obtain ⟨hm7, hw7⟩ := hm7
    clear hm6 tt6 tt7 hK6 hK7 hwe h8 h10 h5 hE ml1 ml2 hM0 hKw hB6 hB7
    clear hM
    refine seqNil ?_
    refine hF11 _ _ ?_; clear hF11
    refine wpSeq fun F12 hF12 => ?_
    refine wpSeq fun F13 hF13 => ?_
    refine wpRegion ?_
    refine seqQ rfl rfl (yAssign (v := .int _ _) rfl rfl) ?_
    refine seqNil ?_
    refine hF13 _ _ ?_; clear hF13
    -- loop
    refine wpBlock ?_
    refine wpLoopS [6, 12, 53, 54, 55, 56, 57, 58, 59, 60, 61, 62, 63, 64, 65, 66, 67, 68, 69, 70, 71, 72, 73, 74, 75] (fun i : Nat => [(12, .int .i64 i)]) (fun i H' => i ≤ 200 ∧ ∃ w x, WM g25 (g25 + 1) w x H' ∧ TI (2 * i) (300 * i) w ∧ w.now = i ∧ Tr [g25] H7 (wT g25 w x) H') (fun i => 200 - i) 0 ⟨rfl, trivial⟩ ⟨Nat.zero_le _, wd0 p q, x7, hm7, hti, rfl, by rw [hw7]; exact Tr.of_ext (Ext.refl _) _⟩ ?_
    rintro i J Hk ⟨hk, w, x, hm, ht, hn, tt⟩
    have h5 := h5'.keep tt.1 (by simpa using hne5)
    refine wpSeq fun F14 hF14 => ?_
    refine wpSeq fun F15 hF15 => ?_
    refine wpRegion ?_
    refine seqQ rfl rfl (yMove (v := .int _ _) rfl rfl) ?_
    refine seqQ rfl rfl (yIdxA1 rfl Try.underlying59 Try.sizeOf5 rfl rfl (show (1 : Int) = ((1 : Nat) : Int) by rfl) (by decide)) ?_
    refine seqQ rfl rfl (yLoad rfl Try.underlying5 rfl rfl (h5.cell (j := 1) rfl)) ?_
    refine seqQ rfl rfl (yConv rfl Try.underlying5 Try.underlying3 rfl (show IntKind.i64.wrap c = c by rw [IntKind.wrap_i64]; omega)) ?_
    refine seqQ rfl rfl (yRem rfl rfl rfl (by omega)) ?_
    refine seqQ rfl rfl (yLss rfl rfl rfl) ?_
    refine seqNil ?_
    refine hF15 _ _ ?_; clear hF15
    -- if t58
    refine wpIf rfl (fun hlt => ?_) (fun hlt => ?_)
    · skip
      have hi : i < 200 := by omega
      refine wpSkip ?_
      refine hF14 _ _ ?_; clear hF14
      refine wpSeq fun F16 hF16 => ?_
      refine wpBlock ?_
      refine wpSeq fun F17 hF17 => ?_
      refine wpRegion ?_
      refine seqQ rfl rfl (yMove (v := .pointer _) rfl rfl) ?_
      refine seqQ rfl rfl (yIdxA1 rfl Try.underlying59 Try.sizeOf5 rfl rfl (show (0 : Int) = ((0 : Nat) : Int) by rfl) (by decide)) ?_
      refine seqQ rfl rfl (yLoad rfl Try.underlying5 rfl rfl (h5.cell (j := 0) rfl)) ?_
      refine seqQ rfl rfl (yConv rfl Try.underlying5 Try.underlying3 rfl (show IntKind.i64.wrap a = a by rw [IntKind.wrap_i64]; omega)) ?_
      refine seqQ rfl rfl (yRem rfl rfl rfl (by omega)) ?_
      -- e slot 66: call F25<(*farandole/farandolelaw50.world).tick> t61 t65
      refine seqE rfl rfl (stepCall rfl Try.call25 rfl ?_)
      refine (wtick_c g25 (g25 + 1) w x (2 * i) (300 * i) (a % 21) Hk hm ht (by omega) (by omega) (by omega) (by omega)).mono ?_
      rintro v Hl ⟨x2, hm2, tt2⟩
      have ht2 := ht.tick (by omega) (by omega) (by omega) (show a % 21 ≤ 100 by omega)
      have hF : cellH Hl ((⟨g25, 0, none⟩ : Addr).add 26) = some (.bool false) := hm2.blk.cell rfl
      refine seqNil ?_
      refine hF17 _ _ ?_; clear hF17
      refine wpSeq fun F18 hF18 => ?_
      refine wpRegion ?_
      refine seqQ rfl rfl (yMove (v := .pointer _) rfl rfl) ?_
      refine seqQ rfl rfl (yNilCheck rfl rfl) ?_
      refine seqQ rfl rfl (yFieldAddr rfl Try.underlying67 rfl Try.sizeOf4 rfl rfl) ?_
      refine seqQ rfl rfl (yLoad rfl Try.underlying4 rfl rfl hF) ?_
      refine seqQ rfl rfl (yMove (v := .bool false) rfl rfl) ?_
      refine seqQ rfl rfl (yMove (v := .pointer _) rfl rfl) ?_
      -- e slot 73: call F26<(*farandole/farandolelaw50.world).inOrder> t72
      refine seqE rfl rfl (stepCall rfl Try.call26 rfl ?_)
      refine (inOrder_c g25 (g25 + 1) _ x2 _ _ Hl hm2 ht2).mono ?_
      rintro v _ ⟨rfl, e⟩
      obtain rfl := e.symm
      clear e
      refine seqQ rfl rfl (yNot rfl rfl) ?_
      refine seqQ rfl rfl (yPickF (v := .bool _) rfl rfl rfl) ?_
      refine seqNil ?_
      refine hF18 _ _ ?_; clear hF18
      -- if t75
      refine wpF rfl ?_
      refine wpSkip ?_
      refine hF16 _ _ ?_; clear hF16
      refine wpRegion ?_
      refine seqQ rfl rfl (yMove (v := .int _ _) rfl rfl) ?_
      refine seqQ rfl rfl (yAdd rfl rfl rfl (by unfold In64; omega)) ?_
      refine seqQ rfl rfl (yAssign (v := .int _ _) rfl rfl) ?_
      refine seqNil ?_
      -- end loop
      exact loopEnd (i + 1) (by repeat (first | (with_reducible exact Agree.refl _ _) | refine Agree.upd ?_ rfl | refine Agree.over ?_ rfl)) (by omega) ⟨rfl, trivial⟩ ⟨hi, _, x2, hm2, ht2.mono (by omega) (by omega), by rw [tick_now]; omega, tt.trans tt2⟩
    · skip
      refine wpExit ?_
      refine hF12 _ _ ?_; clear hF12
      refine wpSeq fun F19 hF19 => ?_
      refine wpRegion ?_
      refine seqQ rfl rfl (yAssign (v := .bool _) rfl rfl) ?_
      refine seqNil ?_
      refine hF19 _ _ ?_; clear hF19
      -- ret
      refine wpRet (fin1 (v := .bool _) rfl rfl ?_)
      exact ⟨rfl, hE7.mine tt.1 (by simpa using hgH)⟩
set_option maxRecDepth 100000 in
theorem opn_bytes (W : World) : Opn Try.prog W 58 1 (fun a : Option Addr × Nat × List UInt8 => [.slice a.1 a.2.2.length a.2.1]) (fun a => Rd eByte W.heap a.1 a.2.2 ∧ (∀ x ∈ a.2.2, True) ∧ a.2.2.length ≤ a.2.1 ∧ a.2.1 ≤ maxLen) :=
  opn_slice (c := eByte) Try.underlying58 (by kernel_rfl) (opn_byte Try.underlying5 (by kernel_rfl))
set_option maxRecDepth 100000 in
theorem opn_a2 (W : World) : Opn Try.prog W 59 2 (fun l : List Int => l.map (Value.int .u8)) (fun l => l.length = 2 ∧ ∀ n ∈ l, 0 ≤ n ∧ n ≤ 255) :=
  (opn_array Try.underlying59 (by kernel_rfl) rfl (opn_u8i (by kernel_rfl) (by kernel_rfl))).map id (fun a => by simp [flatMap_one]) (fun _ h => h)
set_option maxRecDepth 100000 in
set_option maxRecDepth 100000 in
theorem transportOnce_lifted (os : Os) (started : os.Started) (H : Type) (enc : TypeId × Value → H) :
    ReturnsInHanded {} Try.checked os 5 .any (Rows.transportOnceSpec.pre6 enc Try.prog Try.f5 Rows.transportOnceRow.domain false) (Rows.transportOnceSpec.post enc Try.prog Try.f5 false true false false) := by
  refine law_lifted started Rows.transportOnceSpec rfl (by kernel_rfl) Try.func5 rfl
    (fun ds h => by match ds, h with | [_, _, _], _ => rfl) (of_decide_eq_true (by kernel_rfl))
    (ChangeSpec.witness6 (enc := enc) (C := Try.checked) false ⟨#[], #[.slice none 0 0, .slice none 0 0, .agg #[.int .u8 0, .int .u8 0]], []⟩ 8 (by kernel_rfl) (by kernel_rfl) (by kernel_rfl) (by kernel_rfl)) ?_
  intro W base args ds p hval hA
  rw [Try.params5] at hA hval
  obtain ⟨v0, v1, v2, d0, d1, d2, p0, p1, p2, rfl, rfl, rfl, h0, h1, h2⟩ := trodAll_three hA
  have g0 := hval 0 _ v0 rfl rfl
  have g1 := hval 1 _ v1 rfl rfl
  have g2 := hval 2 _ v2 rfl rfl
  obtain ⟨⟨A, ca, l1⟩, rfl, kA, -, k2, k3⟩ := (opn_bytes W).one (one_slice Try.underlying58 g0) h0
  obtain ⟨⟨B, cb, l2⟩, rfl, kB, -, k4, k5⟩ := (opn_bytes W).one (one_slice Try.underlying58 g1) h1
  obtain ⟨n, rfl, hn1, hn2⟩ := (opn_a2 W).agg Try.underlying59 rfl g2 h2
  match n, hn1, hn2 with
  | [a, c], _, hn2 => exact once_walk A B ca cb l1 l2 a c W.heap kA kB (hn2 a (by simp)) (hn2 c (by simp))
set_option maxRecDepth 100000 in
theorem transportOnce_holds : Rows.TransportOnceSaid :=
  OpenClaim.holds_of_wide 5 Try.f5 rfl rfl rfl rfl rfl rfl rfl ⟨rfl, rfl, rfl, rfl, rfl⟩ rfl rfl rfl rfl rfl (by kernel_rfl) Try.func5 (by kernel_rfl)
    (of_decide_eq_true (by kernel_rfl)) (by unfold Func.isWrapper; first | (rw [if_pos (by decide +kernel)]; kernel_rfl) | (rw [if_neg (by decide +kernel)]; exact ⟨rfl, rfl⟩))
    (fun os started H enc _ => transportOnce_lifted os started H enc)
end Go.Proofs.Ytcfnmklbkhibgaa
