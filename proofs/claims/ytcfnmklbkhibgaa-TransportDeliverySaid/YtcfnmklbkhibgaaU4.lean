/- Layer 50: the world of the statements in memory; transmit. -/
import Derived.Test.YtcfnmklbkhibgaaU2
namespace Go.Proofs.Ytcfnmklbkhibgaa
open Go.RowKit

def ackedF (s : Sd) (seq : Int) : Int × Sd := if ¬ SdP s then (1, sd0) else if s.busy = false ∨ s.pk.seq ≠ seq then (8, sd0) else (0, { sd0 with next := s.next })
set_option maxRecDepth 100000 in
theorem acked_c (s : Sd) (seq : Int) (A B : Option Addr) (ca cb : Nat) (H : Heap) (hA : Rd eVal H A s.pk.vals) (hB : Rd eInt H B s.pk.clk) (h1 : s.pk.vals.length ≤ 1000000000) (h2 : s.pk.clk.length ≤ 1000000000) :
    CallsH Try.prog 16 [.agg (sdC s A ca B cb).toArray, .int .i64 seq] H fun v H' => v = .tuple #[.agg (sdC (ackedF s seq).2 none 0 none 0).toArray, .int .i64 (ackedF s seq).1] ∧ Ext H H' := by
  refine callsH_of Try.func16 rfl Try.ntmps16 (Nat.le_of_ble_eq_true rfl) ?_
  refine wpSeq fun F1 hF1 => ?_
  refine wpRegion ?_
  refine seqN rfl rfl (nBoxA rfl rfl) (fun g2 H2 hx2 hB2 hg2 hl2 => ?_)
  refine seqN rfl rfl (nAlloc rfl Try.zeroValue29 rfl) (fun g4 H4 hx4 hB4 hg4 hl4 => ?_)
  refine seqQ rfl rfl (yAssign (v := .int _ _) rfl rfl) ?_
  refine seqNil ?_
  refine hF1 _ _ ?_; clear hF1
  refine wpSeq fun F2 hF2 => ?_
  refine wpBlock ?_
  refine wpSeq fun F3 hF3 => ?_
  refine wpRegion ?_
  refine seqQ rfl rfl (yLoadB (hB2.ext hx4) rfl Try.underlying29 rfl Try.sizeOf29 rfl) ?_
  -- e slot 8: call F21<farandole/transport.Valid> t7
  refine seqE rfl rfl (stepCall rfl Try.call21 rfl ?_)
  refine (sdValid_c s A B ca cb _ ((hA.ext hx2).ext hx4) ((hB.ext hx2).ext hx4) h1 h2).mono ?_
  rintro v H5 ⟨rfl, hx5⟩
  have hE := (hx2.trans hx4).trans hx5
  have s2 := hx2.size
  replace hB2 := (hB2.ext hx4).ext hx5
  replace hB4 := hB4.ext hx5
  clear hx2 hx4 hx5
  refine seqQ rfl rfl (yNot rfl rfl) ?_
  refine seqQ rfl rfl (yAssign (v := .bool _) rfl rfl) ?_
  refine seqNil ?_
  refine hF3 _ _ ?_; clear hF3
  -- if t6
  refine wpCond rfl (fun hv => ?_) (fun hv => ?_)
  · skip
    have hv : ¬ SdP s := by simpa using hv
    refine wpSeq fun F4 hF4 => ?_
    refine wpRegion ?_
    refine seqQ rfl rfl (yBuild (pl := [(0, 1), (1, 1), (2, 9), (11, 1), (12, 1)]) (vs := []) rfl Try.underlying29 Try.zeroValue29 rfl (by unfold Places; kernel_rfl) rfl rfl) ?_
    -- e slot None: store T29 t4 t10
    refine seqE0 rfl rfl (stepStoreB rfl (by kernel_rfl) rfl rfl rfl hB4 rfl ?_)
    intro H6 hB6 hK6
    refine seqQ rfl rfl (yAssign (v := .int _ _) rfl rfl) ?_
    refine seqNil ?_
    refine hF4 _ _ ?_; clear hF4
    -- ret
    refine wpRet (finR2 rfl (resC Try.underlying29 rfl (by kernel_rfl) rfl hB6) (resT (v := .int _ _) rfl) ?_)
    exact ⟨by rw [show ackedF s seq = (1, sd0) from if_pos hv]; rfl, hE.mine hK6 (by simp; omega)⟩
  · skip
    have hv : ¬ ¬ SdP s := by simpa using hv
    refine wpSeq fun F5 hF5 => ?_
    refine wpRegion ?_
    refine seqQ rfl rfl (yFieldAddr rfl Try.underlying29 rfl Try.sizeOf4 rfl rfl) ?_
    refine seqQ rfl rfl (yLoad rfl Try.underlying4 rfl rfl (hB2.cell rfl)) ?_
    refine seqQ rfl rfl (yNot rfl rfl) ?_
    -- guard t15
    refine seqMeet 10 [15, 16, 17, 18, 19, 20, 21] 21 (decide (s.busy = false ∨ s.pk.seq ≠ seq)) (fun hm6 => ?_) (fun J6 => ?_)
    · skip
      first | refine seqG rfl rfl rfl rfl (fun h15 => ?_) (fun h15 => ?_) | refine seqGB rfl rfl rfl rfl (fun h15 => ?_) (fun h15 => ?_)
      · skip
        refine seqU rfl rfl ?_
        refine seqU rfl rfl ?_
        refine seqU rfl rfl ?_
        refine seqU rfl rfl ?_
        refine seqU rfl rfl ?_
        refine seqQ rfl rfl (yPickT (v := .bool _) rfl rfl rfl) ?_
        exact hm6 _ (by repeat (first | (with_reducible exact Agree.refl _ _) | refine Agree.upd ?_ rfl | refine Agree.over ?_ rfl)) (by show Value.bool _ = Value.bool _; congr 1; grind)
      · skip
        refine seqQ rfl rfl (yFieldAddr rfl Try.underlying29 rfl Try.sizeOf27 rfl rfl) ?_
        refine seqQ rfl rfl (yFieldAddr rfl Try.underlying27 rfl Try.sizeOf3 rfl rfl) ?_
        refine seqQ rfl rfl (yLoad rfl Try.underlying3 rfl rfl (hB2.cell2 rfl)) ?_
        refine seqQ rfl rfl (yMove (v := .int _ _) rfl rfl) ?_
        refine seqQ rfl rfl (yNeq rfl rfl rfl) ?_
        refine seqQ rfl rfl (yPickF (v := .bool _) rfl rfl rfl) ?_
        exact hm6 _ (by repeat (first | (with_reducible exact Agree.refl _ _) | refine Agree.upd ?_ rfl | refine Agree.over ?_ rfl)) (by show Value.bool _ = Value.bool _; congr 1; grind)
    refine seqQ rfl rfl (yAssign (v := .bool _) rfl rfl) ?_
    refine seqNil ?_
    refine hF5 _ _ ?_; clear hF5
    -- if t11
    refine wpIf rfl (fun hb => ?_) (fun hb => ?_)
    · skip
      refine wpSeq fun F7 hF7 => ?_
      refine wpRegion ?_
      refine seqQ rfl rfl (yBuild (pl := [(0, 1), (1, 1), (2, 9), (11, 1), (12, 1)]) (vs := []) rfl Try.underlying29 Try.zeroValue29 rfl (by unfold Places; kernel_rfl) rfl rfl) ?_
      -- e slot None: store T29 t4 t22
      refine seqE0 rfl rfl (stepStoreB rfl (by kernel_rfl) rfl rfl rfl hB4 rfl ?_)
      intro H6 hB6 hK6
      refine seqQ rfl rfl (yAssign (v := .int _ _) rfl rfl) ?_
      refine seqNil ?_
      refine hF7 _ _ ?_; clear hF7
      -- ret
      refine wpRet (finR2 rfl (resC Try.underlying29 rfl (by kernel_rfl) rfl hB6) (resT (v := .int _ _) rfl) ?_)
      exact ⟨by rw [show ackedF s seq = (8, sd0) from by unfold ackedF; rw [if_neg hv, if_pos hb]]; rfl, hE.mine hK6 (by simp; omega)⟩
    · skip
      refine wpSkip ?_
      refine hF2 _ _ ?_; clear hF2
      refine wpSeq fun F8 hF8 => ?_
      refine wpRegion ?_
      refine seqQ rfl rfl (yFieldAddr rfl Try.underlying29 rfl Try.sizeOf3 rfl rfl) ?_
      refine seqQ rfl rfl (yLoad rfl Try.underlying3 rfl rfl (hB2.cell rfl)) ?_
      refine seqQ rfl rfl (yBuild (pl := [(0, 1), (1, 1), (2, 9), (11, 1), (12, 1)]) (vs := [(0, .int _ _)]) rfl Try.underlying29 Try.zeroValue29 rfl (by unfold Places; kernel_rfl) rfl rfl) ?_
      -- e slot None: store T29 t4 t25
      refine seqE0 rfl rfl (stepStoreB rfl (by kernel_rfl) rfl rfl rfl hB4 rfl ?_)
      intro H6 hB6 hK6
      refine seqQ rfl rfl (yAssign (v := .int _ _) rfl rfl) ?_
      refine seqNil ?_
      refine hF8 _ _ ?_; clear hF8
      -- ret
      refine wpRet (finR2 rfl (resC Try.underlying29 rfl (by kernel_rfl) rfl hB6) (resT (v := .int _ _) rfl) ?_)
      exact ⟨by rw [show ackedF s seq = (0, { sd0 with next := s.next }) from by unfold ackedF; rw [if_neg hv, if_neg hb]]; rfl, hE.mine hK6 (by simp; omega)⟩
/-- Where the parts of the world lie. -/
structure WX where
  A : Option Addr
  ca : Nat
  B : Option Addr
  cb : Nat
  lo : LH
  lb : LH
  DA : Option Addr
  dc : Nat
@[reducible] def wdC (w : Wd) (x : WX) : List Value := sdC w.snd x.A x.ca x.B x.cb ++ ([.int .i64 w.last] ++ (lkC x.lo ++ (lkC x.lb ++ [.int .i64 w.now, .int .i64 w.offered, .int .i64 w.acked, .slice x.DA w.dlv.length x.dc, .bool false])))
/-- The blocks of the world that turn. -/
def wT (gw : Nat) (w : Wd) (x : WX) : List Nat := [gw] ++ (Value.slice x.DA w.dlv.length x.dc).ownBlock.toList
structure WM (gw b : Nat) (w : Wd) (x : WX) (H : Heap) : Prop where
  blk : Blk H gw (wdC w x) 67
  lout : x.lo.lk = w.out
  lback : x.lb.lk = w.back
  mo : LkM (wT gw w x) H x.lo
  mb : LkM (wT gw w x) H x.lb
  so : LkSm x.lo
  sb : LkSm x.lb
  dl : Own eInt 3 H b (.slice x.DA w.dlv.length x.dc) w.dlv
  gb : gw < b
  bh : b ≤ H.size
  pv : w.snd.pk.vals = [] ∧ w.snd.pk.clk = []
set_option maxRecDepth 100000 in
theorem WM.ext {gw b : Nat} {w : Wd} {x : WX} {H H' : Heap} (h : WM gw b w x H) (hx : Ext H H') : WM gw b w x H' := ⟨h.blk.ext hx, h.lout, h.lback, h.mo.tr (Tr.of_ext hx _), h.mb.tr (Tr.of_ext hx _), h.so, h.sb, h.dl.ext hx, h.gb, Nat.le_trans h.bh hx.size, h.pv⟩
set_option maxRecDepth 100000 in
theorem WM.lt {gw b : Nat} {w : Wd} {x : WX} {H : Heap} (h : WM gw b w x H) : ∀ y ∈ wT gw w x, gw ≤ y ∧ y < H.size := fun y hy => by
  have := h.gb
  rcases List.mem_append.1 hy with hy | hy
  · rw [List.mem_singleton.1 hy]; exact ⟨Nat.le_refl _, h.blk.lt⟩
  · rw [Option.mem_toList] at hy; have := h.dl.lt y hy; omega
set_option maxRecDepth 100000 in
theorem TI.nil {a b : Int} {w : Wd} (h : TI a b w) : w.snd.pk.vals = [] ∧ w.snd.pk.clk = [] := by
  cases hb : w.snd.busy with
  | true => rw [(h.busy hb).1]; exact ⟨rfl, rfl⟩
  | false => rw [(h.idle hb).1]; exact ⟨rfl, rfl⟩
set_option maxRecDepth 100000 in
theorem rd_nil {α : Type} {c : El α} {H : Heap} {A : Option Addr} {l : List α} (h : l = []) : Rd c H A l := by rw [h]; exact Rd.nil _ _
set_option maxRecDepth 100000 in
theorem transmit_c (gw : Nat) (cs : List Value) (L : LH) (p : Pk) (A B : Option Addr) (ca cb : Nat) (H : Heap) (hB : Blk H gw cs 67) (hf : cs[26]? = some (.bool false)) (hL : LkRd H L) (hs : LkSm L) (hv : ValidL L.lk) (hn : L.lk.sent < 1099511627776) (hp : ValidP p) (h1 : p.vals = []) (h2 : p.clk = []) :
    CallsH Try.prog 44 [.pointer (some ⟨gw, 0, none⟩), .agg (lkC L).toArray, .agg (pkC p A ca B cb).toArray] H fun v H' => ∃ L', v = .agg (lkC L').toArray ∧ L'.lk = sendF L.lk p ∧ LkSm L' ∧ LkN H.size H' L' ∧ Ext H H' := by
  have hel := enc_len hp h1 h2
  have he0 : (encP p).1 = 0 := by rw [encP_valid hp]
  obtain ⟨hs0, -⟩ := send_ok hv hn hp h1 h2
  refine callsH_of Try.func44 rfl Try.ntmps44 (Nat.le_of_ble_eq_true rfl) ?_
  refine wpSeq fun F1 hF1 => ?_
  refine wpRegion ?_
  refine seqN rfl rfl (nBoxA rfl rfl) (fun g4 H4 hx4 hB4 hg4 hl4 => ?_)
  refine seqN rfl rfl (nBoxA rfl rfl) (fun g5 H5 hx5 hB5 hg5 hl5 => ?_)
  refine seqN rfl rfl (nAlloc rfl Try.zeroValue65 rfl) (fun g6 H6 hx6 hB6 hg6 hl6 => ?_)
  refine seqNil ?_
  refine hF1 _ _ ?_; clear hF1
  refine wpSeq fun F2 hF2 => ?_
  refine wpRegion ?_
  refine seqQ rfl rfl (yLoadB ((hB5.ext hx6)) rfl Try.underlying27 rfl Try.sizeOf27 rfl) ?_
  -- e slot 13: call F57<farandole/packet.Encode> t12
  have hE6 := (hx4.trans hx5).trans hx6
  refine seqE rfl rfl (stepCall rfl Try.call57 rfl ?_)
  refine (Encode_c p A B ca cb H6 (rd_nil h1) (rd_nil h2) (nil64 h1) (fun v hv => by rw [h1] at hv; cases hv)).mono ?_
  rintro v H7 ⟨C, cc, rfl, oE, x7⟩
  rw [he0]
  refine seqQ rfl rfl (yMove (v := .tuple _) rfl rfl) ?_
  refine seqQ rfl rfl (yExtract (v := .slice _ _ _) rfl rfl rfl) ?_
  refine seqQ rfl rfl (yExtract (v := .int _ _) rfl rfl rfl) ?_
  refine seqQ rfl rfl (yAssign (v := .slice _ _ _) rfl rfl) ?_
  refine seqQ rfl rfl (yAssign (v := .int _ _) rfl rfl) ?_
  refine seqNil ?_
  refine hF2 _ _ ?_; clear hF2
  refine wpSeq fun F3 hF3 => ?_
  refine wpRegion ?_
  refine seqQ rfl rfl (yLoadB (((hB4.ext hx5).ext hx6).ext x7) rfl Try.underlying65 rfl Try.sizeOf65 rfl) ?_
  refine seqQ rfl rfl (yMove (v := .slice _ _ _) rfl rfl) ?_
  -- e slot 19: call F58<farandole/link.Send> t17 t18
  refine seqE rfl rfl (stepCall rfl Try.call58 rfl ?_)
  refine (send_c L C cc (encP p).2 H7 (hL.ext (hE6.trans x7)) hs (Own.rd oE).2 (by omega)).mono ?_
  rintro v H8 ⟨L', rfl, eL, nL, x8⟩
  rw [hs0]
  refine seqQ rfl rfl (yMove (v := .tuple _) rfl rfl) ?_
  refine seqQ rfl rfl (yExtract (v := .agg _) rfl rfl rfl) ?_
  refine seqQ rfl rfl (yExtract (v := .int _ _) rfl rfl rfl) ?_
  refine seqN rfl rfl (nAlloc rfl Try.zeroValue65 rfl) (fun g9 H9 hx9 hB9 hg9 hl9 => ?_)
  -- e slot None: store T65 t9 t20
  refine seqE0 rfl rfl (stepStoreB rfl (by kernel_rfl) rfl rfl rfl hB9 rfl ?_)
  intro H10 h9 hK9
  have x10 : Ext H8 H10 := hx9.mine hK9 (by simp; omega)
  have hEa := ((hE6.trans x7).trans x8).trans x10
  have hBw := hB.ext hEa
  have s6 := hE6.size
  have s7 := x7.size
  have n10 := nL.ext x10
  have h6 := ((hB6.ext x7).ext x8).ext x10
  clear hB9 hK9 hx9 oE
  refine seqQ rfl rfl (yAssign (v := .int _ _) rfl rfl) ?_
  refine seqNil ?_
  refine hF3 _ _ ?_; clear hF3
  refine wpSeq fun F4 hF4 => ?_
  refine wpRegion ?_
  refine seqQ rfl rfl (yMove (v := .pointer _) rfl rfl) ?_
  refine seqQ rfl rfl (yMove (v := .pointer _) rfl rfl) ?_
  refine seqQ rfl rfl (yNilCheck rfl rfl) ?_
  refine seqQ rfl rfl (yFieldAddr rfl Try.underlying67 rfl Try.sizeOf4 rfl rfl) ?_
  refine seqQ rfl rfl (yLoad rfl Try.underlying4 rfl rfl (show cellH H10 ((⟨gw, 0, none⟩ : Addr).add 26) = some (.bool false) from hBw.cell hf)) ?_
  refine seqQ rfl rfl (yMove (v := .bool false) rfl rfl) ?_
  refine seqQ rfl rfl (yMove (v := .int _ _) rfl rfl) ?_
  refine seqQ rfl rfl (yNeq rfl rfl rfl) ?_
  refine seqQ rfl rfl (yPickF (v := .bool _) rfl rfl rfl) ?_
  -- guard t31
  rw [show (!decide ((0 : Int) = 0)) = false from rfl]
  refine seqQ rfl rfl (yMove (v := .bool false) rfl rfl) ?_
  refine seqQ rfl rfl (yMove (v := .int _ _) rfl rfl) ?_
  refine seqQ rfl rfl (yNeq rfl rfl rfl) ?_
  refine seqQ rfl rfl (yPickF (v := .bool _) rfl rfl rfl) ?_
  refine seqQ rfl rfl (yNilCheck rfl rfl) ?_
  refine seqQ rfl rfl (yFieldAddr rfl Try.underlying67 rfl Try.sizeOf4 rfl rfl) ?_
  -- e slot None: store T4 t36 t34
  refine seqE0 rfl rfl (stepStoreSame (v := .bool false) rfl Try.sizeOf4 rfl rfl rfl rfl hBw (j := 26) hf ?_)
  refine seqNil ?_
  refine hF4 _ _ ?_; clear hF4
  refine wpSeq fun F5 hF5 => ?_
  refine wpRegion ?_
  refine seqQ rfl rfl (yLoadB h9 rfl Try.underlying65 rfl Try.sizeOf65 rfl) ?_
  -- e slot None: store T65 t6 t37
  refine seqE0 rfl rfl (stepStoreB rfl (by kernel_rfl) rfl rfl rfl h6 rfl ?_)
  intro Hz hz hKz
  refine seqNil ?_
  refine hF5 _ _ ?_; clear hF5
  -- ret
  refine wpRet (finR1 rfl (resC Try.underlying65 rfl (by kernel_rfl) rfl hz) ?_)
  refine ⟨L', rfl, eL, sm_send hs eL, (n10.keep hKz (by simp; omega)).mono (by omega), hEa.mine hKz (by simp; omega)⟩
end Go.Proofs.Ytcfnmklbkhibgaa
