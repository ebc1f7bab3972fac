/- Layer 50: a packet arrives; an acknowledgement returns. -/
import Derived.Test.YtcfnmklbkhibgaaU4
namespace Go.Proofs.Ytcfnmklbkhibgaa
open Go.RowKit

set_option maxRecDepth 100000 in
/-- A cell of the world that is no slice is stored. -/
theorem WM.turn {gw b : Nat} {w w' : Wd} {x : WX} {H H' : Heap} (h : WM gw b w x H) (hK : Keep [gw] H H') (hB : Blk H' gw (wdC w' x) 67) (h1 : w'.out = w.out) (h2 : w'.back = w.back) (h3 : w'.dlv = w.dlv) (h4 : w'.snd.pk.vals = [] ∧ w'.snd.pk.clk = []) : WM gw b w' x H' ∧ Tr (wT gw w x) H (wT gw w' x) H' := by
  have hg := h.gb
  have e : wT gw w' x = wT gw w x := by unfold wT; rw [h3]
  have tt : Tr (wT gw w x) H (wT gw w' x) H' := by rw [e]; exact Tr.store hK (by unfold wT; simp)
  refine ⟨⟨hB, h.lout.trans h1.symm, h.lback.trans h2.symm, h.mo.tr tt, h.mb.tr tt, h.so, h.sb, ?_, hg, Nat.le_trans h.bh hK.size, h4⟩, tt⟩
  rw [h3]
  exact h.dl.keep hK (fun g e => by have := (h.dl.lt g e).1; simp; omega)
set_option maxRecDepth 100000 in
/-- The sender is stored. -/
theorem WM.turnS {gw b : Nat} {w : Wd} {x : WX} {H H' : Heap} (h : WM gw b w x H) {s : Sd} {A B : Option Addr} {ca cb : Nat} (hK : Keep [gw] H H') (hB : Blk H' gw (wdC { w with snd := s } { x with A := A, ca := ca, B := B, cb := cb }) 67) (h4 : s.pk.vals = [] ∧ s.pk.clk = []) : WM gw b { w with snd := s } { x with A := A, ca := ca, B := B, cb := cb } H' ∧ Tr (wT gw w x) H (wT gw { w with snd := s } { x with A := A, ca := ca, B := B, cb := cb }) H' := by
  have hg := h.gb
  have tt : Tr (wT gw w x) H (wT gw w x) H' := Tr.store hK (by unfold wT; simp)
  exact ⟨⟨hB, h.lout, h.lback, h.mo.tr tt, h.mb.tr tt, h.so, h.sb, h.dl.keep hK (fun g e => by have := (h.dl.lt g e).1; simp; omega), hg, Nat.le_trans h.bh hK.size, h4⟩, tt⟩
set_option maxRecDepth 100000 in
/-- A link of the world is stored. -/
theorem WM.back {gw b : Nat} {w : Wd} {x : WX} {H H' : Heap} (h : WM gw b w x H) {L : LH} {l : Lk} (hL : LkM (wT gw w x) H L) (hs : LkSm L) (he : L.lk = l) (hK : Keep [gw] H H') (hB : Blk H' gw (wdC { w with back := l } { x with lb := L }) 67) : WM gw b { w with back := l } { x with lb := L } H' ∧ Tr (wT gw w x) H (wT gw { w with back := l } { x with lb := L }) H' := by
  have hg := h.gb
  have tt : Tr (wT gw w x) H (wT gw w x) H' := Tr.store hK (by unfold wT; simp)
  exact ⟨⟨hB, h.lout, he, h.mo.tr tt, hL.tr tt, h.so, hs, h.dl.keep hK (fun g e => by have := (h.dl.lt g e).1; simp; omega), hg, Nat.le_trans h.bh hK.size, h.pv⟩, tt⟩
set_option maxRecDepth 100000 in
theorem WM.outL {gw b : Nat} {w : Wd} {x : WX} {H H' : Heap} (h : WM gw b w x H) {L : LH} {l : Lk} (hL : LkM (wT gw w x) H L) (hs : LkSm L) (he : L.lk = l) (hK : Keep [gw] H H') (hB : Blk H' gw (wdC { w with out := l } { x with lo := L }) 67) : WM gw b { w with out := l } { x with lo := L } H' ∧ Tr (wT gw w x) H (wT gw { w with out := l } { x with lo := L }) H' := by
  have hg := h.gb
  have tt : Tr (wT gw w x) H (wT gw w x) H' := Tr.store hK (by unfold wT; simp)
  exact ⟨⟨hB, he, h.lback, hL.tr tt, h.mb.tr tt, hs, h.sb, h.dl.keep hK (fun g e => by have := (h.dl.lt g e).1; simp; omega), hg, Nat.le_trans h.bh hK.size, h.pv⟩, tt⟩
set_option maxRecDepth 100000 in
theorem ackP_msg {s : Int} (h : 1 ≤ s ∧ s ≤ 1099511627776) : ackP (msgS s) = (0, ackS s) := if_pos ⟨rfl, msgS_valid h⟩
set_option maxRecDepth 100000 in
/-- More was delivered. -/
theorem WM.deliver {gw b : Nat} {w : Wd} {x : WX} {H H1 H2 H' : Heap} (h : WM gw b w x H) (hx : Ext H H1) {n : Int} {DA : Option Addr} {dc : Nat} (gr : Grew H1 (.slice x.DA w.dlv.length x.dc) H2 (.slice DA (w.dlv ++ [n]).length dc)) (ho : Own eInt 3 H2 b (.slice DA (w.dlv ++ [n]).length dc) (w.dlv ++ [n])) (hx2 : Ext H2 H') {H3 : Heap} (hK : Keep [gw] H' H3)
    (hB : Blk H3 gw (wdC { w with dlv := w.dlv ++ [n] } { x with DA := DA, dc := dc }) 67) : WM gw b { w with dlv := w.dlv ++ [n] } { x with DA := DA, dc := dc } H3 ∧ Tr (wT gw w x) H (wT gw { w with dlv := w.dlv ++ [n] } { x with DA := DA, dc := dc }) H3 := by
  have hg := h.gb
  have t2 : Tr (wT gw w x) H1 (wT gw { w with dlv := w.dlv ++ [n] } { x with DA := DA, dc := dc }) H2 := ⟨gr.1.mono fun g hg => List.mem_append.2 (.inr hg), fun g hg => by
    rcases List.mem_append.1 hg with hg | hg
    · exact .inl (List.mem_append.2 (.inl hg))
    · rw [Option.mem_toList] at hg
      rcases gr.2 g hg with h1 | h1
      · exact .inl (List.mem_append.2 (.inr (by rw [Option.mem_toList]; exact h1)))
      · exact .inr h1⟩
  have tt := ((Tr.of_ext hx (wT gw w x)).trans t2).trans ((Tr.of_ext hx2 _).trans (Tr.store hK (by unfold wT; simp)))
  exact ⟨⟨hB, h.lout, h.lback, h.mo.tr tt, h.mb.tr tt, h.so, h.sb, (ho.ext hx2).keep hK (fun g e => by have := (ho.lt g e).1; simp; omega), hg, Nat.le_trans h.bh (Nat.le_trans hx.size (Nat.le_trans gr.1.size (Nat.le_trans hx2.size hK.size))), h.pv⟩, tt⟩
set_option maxRecDepth 100000 in
theorem arrive_c (gw b : Nat) (w : Wd) (x : WX) (aa bb : Int) (d : List UInt8) (A : Option Addr) (ca : Nat) (H : Heap) (hm : WM gw b w x H) (ht : TI aa bb w) (hbb : bb < 1099511627776) (hA : Rd eByte H A d) (hca : d.length ≤ ca) (hdl : d.length ≤ 100000) (hd : OutOk w.offered d) :
    CallsH Try.prog 42 [.pointer (some ⟨gw, 0, none⟩), .slice A d.length ca] H fun _ H' => ∃ x', WM gw b (arriveF w d) x' H' ∧ Tr (wT gw w x) H (wT gw (arriveF w d) x') H' := by
  have hgb := hm.gb
  refine callsH_of Try.func42 rfl Try.ntmps42 (Nat.le_of_ble_eq_true rfl) ?_
  refine wpSeq fun F1 hF1 => ?_
  refine wpRegion ?_
  refine seqQ rfl rfl (yMove (v := .slice _ _ _) rfl rfl) ?_
  -- e slot 12: call F55<farandole/packet.Decode> t11
  refine seqE rfl rfl (stepCall rfl Try.call55 rfl ?_)
  refine (Decode_c A ca d H hA hca (by omega)).mono ?_
  rintro v H1 ⟨B1, cb1, C1, cc1, rfl, ov, oc, x1⟩
  refine seqQ rfl rfl (yMove (v := .tuple _) rfl rfl) ?_
  refine seqQ rfl rfl (yExtract (v := .agg _) rfl rfl rfl) ?_
  refine seqQ rfl rfl (yExtract (v := .int _ _) rfl rfl rfl) ?_
  refine seqN rfl rfl (nAlloc rfl Try.zeroValue27 rfl) (fun g4 H4 hx4 hB4 hg4 hl4 => ?_)
  -- e slot None: store T27 t4 t13
  refine seqE0 rfl rfl (stepStoreB rfl (by kernel_rfl) rfl rfl rfl hB4 rfl ?_)
  intro H2 h4 hK2
  have x2 : Ext H1 H2 := hx4.mine hK2 (by simp; omega)
  have hg4 : H.size ≤ g4 := Nat.le_trans x1.size hg4
  have hwl := fun y hy => (hm.lt y hy).2
  have hgwl : gw < H.size := hm.blk.lt
  clear hK2 hB4 hx4
  have hE := x1.trans x2
  refine seqQ rfl rfl (yAssign (v := .int _ _) rfl rfl) ?_
  refine seqNil ?_
  refine hF1 _ _ ?_; clear hF1
  refine wpSeq fun F2 hF2 => ?_
  refine wpSeq fun F3 hF3 => ?_
  refine wpRegion ?_
  refine seqQ rfl rfl (yMove (v := .int _ _) rfl rfl) ?_
  refine seqQ rfl rfl (yNeq rfl rfl rfl) ?_
  refine seqNil ?_
  refine hF3 _ _ ?_; clear hF3
  -- if t16
  refine wpCond rfl (fun he => ?_) (fun he => ?_)
  · skip
    have he : (decP d).1 ≠ 0 := by simpa using he
    refine wpRet (fin0 rfl ?_)
    unfold arriveF
    rw [if_pos he]
    exact ⟨x, hm.ext hE, Tr.of_ext hE _⟩
  · skip
    have he : (decP d).1 = 0 := by simpa using he
    obtain ⟨s, s1, s2, hs⟩ := hd.resolve_left (fun h => h he)
    rw [hs] at h4
    replace h4 : Blk H2 g4 (pkC (msgS s) B1 cb1 C1 cc1) 27 := h4
    have hoff := ht.off
    have hlst := ht.lastr
    have hm2 := hm.ext hE
    have hli : 0 ≤ w.last := by have := ht.dlvl; omega
    refine wpSkip ?_
    refine hF2 _ _ ?_; clear hF2
    refine wpSeq fun F4 hF4 => ?_
    refine wpRegionD Try_mixed [.q, .q, .q, .q, .q, .q, .e, .q, .q, .q, .n, .e, .q] 12 [0, 1, 3, 7, 0, 16, 63, 127, 255, 255, 0, 1535, 4095] [] (by kernel_rfl) _ rfl [0, 1, 2, 3, 4, 5, 6, 7, 8, 9, 10, 11] rfl (by simp) ?_
    refine lexQ rfl rfl rfl rfl (fun H hM => (yMove (v := .pointer _) rfl rfl)) ?_
    refine lexQ rfl rfl rfl rfl (fun H hM => (yNilCheck rfl rfl)) ?_
    refine lexQ rfl rfl rfl rfl (fun H hM => (yFieldAddr rfl Try.underlying67 rfl Try.sizeOf62 rfl rfl)) ?_
    refine lexQ rfl rfl rfl rfl (fun H hM => (yLoadC (cs := [.int .i64 w.last]) rfl Try.underlying62 rfl Try.sizeOf62 rfl (fun j u hu => hM.ext.cell (hm2.blk.sub (off := 13) rfl j u hu)))) ?_
    refine lexQ rfl rfl rfl rfl (fun H hM => (yFieldAddr rfl Try.underlying27 rfl Try.sizeOf3 rfl rfl)) ?_
    refine lexQ rfl rfl rfl rfl (fun H hM => (yLoad rfl Try.underlying3 rfl rfl (hM.ext.cell (h4.cell (j := 5) rfl)))) ?_
    -- e slot 24: call F27<farandole/transport.Receive> t21 t23
    refine lexX rfl rfl rfl rfl (by simp) (fun H24 hX24 hM24 hN24 => stepCall rfl Try.call27 rfl ?_)
    refine (receive_c w.last s H24 (by unfold In64; omega)).mono ?_
    rintro v H3 ⟨rfl, x3⟩
    refine ⟨x3, fun _ => ?_⟩
    refine lexQ rfl rfl rfl rfl (fun H hM => (yMove (v := .tuple _) rfl rfl)) ?_
    refine lexQ rfl rfl rfl rfl (fun H hM => (yExtract (v := .agg _) rfl rfl rfl)) ?_
    refine lexQ rfl rfl rfl rfl (fun H hM => (yExtract (v := .int _ _) rfl rfl rfl)) ?_
    refine lexNB rfl rfl rfl rfl (nAlloc rfl Try.zeroValue62 rfl) (fun g6 hg6 hne6 => ?_)
    -- e slot None: store T62 t6 t25
    refine lexES0 rfl rfl rfl rfl (by first | assumption | omega) (by first | (dsimp only; rfl) | kernel_rfl) (by simp) (fun Hs hXs hMs hBs hFs => stepStoreB rfl (by kernel_rfl) rfl rfl rfl hBs rfl ?_)
    intro H5 h6 hK5
    refine ⟨hK5, fun b hb => by simp at hb, ?_⟩
    -- tail
    refine lexNil (fun Hf hXf hMf hNf => ?_)
    have x5 : Ext H2 Hf := (((hX24.trans x3).trans hXs).mine hK5 (by simp; omega)).trans hXf
    replace h6 := h6.ext hXf
    have h4f := h4.ext x5
    have hmf := hm2.ext x5
    clear hX24 x3 hXs hK5 hFs hBs
    have hsq : (msgS s).seq = s := rfl
    by_cases hn : s = w.last + 1
    · skip
      rw [show recvF w.last s = (s, 1) from if_pos hn] at h6 ⊢
      refine seqQ rfl rfl (yAssign (v := .int _ _) rfl rfl) ?_
      refine seqNil ?_
      refine hF4 _ _ ?_; clear hF4
      refine wpSeq fun F5 hF5 => ?_
      refine wpRegion ?_
      refine seqQ rfl rfl (yMove (v := .pointer _) rfl rfl) ?_
      refine seqQ rfl rfl (yLoadB h6 rfl Try.underlying62 rfl Try.sizeOf62 rfl) ?_
      refine seqQ rfl rfl (yNilCheck rfl rfl) ?_
      refine seqQ rfl rfl (yFieldAddr rfl Try.underlying67 rfl Try.sizeOf62 rfl rfl) ?_
      -- e slot None: store T62 t30 t28
      refine seqE0 rfl rfl (stepStoreSeg rfl (by kernel_rfl) rfl rfl rfl hmf.blk (Nat.le_of_ble_eq_true rfl) ?_)
      intro Hg hBg hKg
      obtain ⟨hmg, ttg⟩ := hmf.turn (w' := { w with last := s }) hKg hBg rfl rfl rfl hmf.pv
      have hMd : ∀ y ∈ (Value.slice x.DA w.dlv.length x.dc).ownBlock.toList, b ≤ y ∧ y < Hg.size := fun y hy => by rw [Option.mem_toList] at hy; exact hmg.dl.lt y hy
      have hdll := ht.dlvl
      refine seqNil ?_
      refine hF5 _ _ ?_; clear hF5
      refine wpSeq fun F6 hF6 => ?_
      refine wpSeq fun F7 hF7 => ?_
      refine wpRegion ?_
      refine seqQ rfl rfl (yMove (v := .int _ _) rfl rfl) ?_
      refine seqQ rfl rfl (yEql rfl rfl rfl) ?_
      refine seqNil ?_
      refine hF7 _ _ ?_; clear hF7
      -- if t32
      refine wpT rfl ?_
      have h4g := h4f.keep hKg (by simp; omega)
      refine wpRegionD Try_mixed [.q, .q, .q, .q, .q, .q, .q, .n, .e, .q, .q, .e] 9 [0, 0, 2, 6, 14, 0, 32, 96, 254, 511, 1023, 2047] (Value.slice x.DA w.dlv.length x.dc).ownBlock.toList (by kernel_rfl) _ rfl [0, 1, 2, 3, 4, 5, 6, 7, 8] rfl (fun y hy => (hMd y hy).2) ?_
      refine lexQ rfl rfl rfl rfl (fun H hM => (yMove (v := .pointer _) rfl rfl)) ?_
      refine lexQ rfl rfl rfl rfl (fun H hM => (yMove (v := .pointer _) rfl rfl)) ?_
      refine lexQ rfl rfl rfl rfl (fun H hM => (yNilCheck rfl rfl)) ?_
      refine lexQ rfl rfl rfl rfl (fun H hM => (yFieldAddr rfl Try.underlying67 rfl Try.sizeOf25 rfl rfl)) ?_
      refine lexQ rfl rfl rfl rfl (fun H hM => (yLoad rfl Try.underlying25 rfl rfl (hM.cell (show cellH Hg ((⟨gw, 0, none⟩ : Addr).add 25) = some (.slice x.DA w.dlv.length x.dc) from hmg.blk.cell rfl) (fun hy => by have := (hMd _ hy).1; simp only [block_of_add] at this; omega)))) ?_
      refine lexQ rfl rfl rfl rfl (fun H hM => (yFieldAddr rfl Try.underlying27 rfl Try.sizeOf3 rfl rfl)) ?_
      refine lexQ rfl rfl rfl rfl (fun H hM => (yLoad rfl Try.underlying3 rfl rfl (hM.cell (show cellH Hg ((⟨g4, 0, none⟩ : Addr).add 6) = some (.int .i64 ((s - 1) % 40)) from h4g.cell (j := 6) rfl) (fun hy => by rw [block_of_add, Option.mem_toList] at hy; have := (hm.dl.lt _ hy).2; have : (⟨g4, 0, none⟩ : Addr).block = g4 := rfl; omega)))) ?_
      refine lexNB rfl rfl rfl rfl (nBuildSlice (vs := [.int _ _]) rfl Try.underlying25 Try.sizeOf3 Try.zeroValue3 rfl rfl rfl rfl) (fun g40 hg40 hne40 => ?_)
      -- e slot 41: builtin append t37 t40 : [25, 25]
      refine lexE rfl rfl rfl rfl (fun H41 hX41 hM41 hN41 => stepApp (c := eInt) (hmg.dl.ext hX41) rfl Try.underlying25 elem_eInt rfl (by omega) rfl rfl rfl (Blk.rd (c := eInt) (l := [(s - 1) % 40]) (Made.blk hN41 (.head _) rfl)) (by rw [List.length_singleton]; dsimp only; omega) (Nat.le_trans hmg.bh hX41.size) ?_)
      intro v1 H6 o6 gr1
      refine lexGrew gr1 (fun g e => by rw [Option.mem_toList]; exact e) (fun y hy => Nat.lt_of_lt_of_le (hMd y hy).2 hX41.size) (fun g e => (o6.lt g e).2) ?_
      obtain ⟨V1, c1, rfl, -⟩ := o6.form
      -- tail
      refine lexNil (fun Hk hXk hMk hNk => ?_)
      have bk := ((hmg.blk.ext hX41).keep gr1.1 (fun hy => by have := (hMd _ hy).1; omega)).ext hXk
      have h4k := ((h4g.ext hX41).keep gr1.1 (fun hy => by rw [Option.mem_toList] at hy; have := (hm.dl.lt _ hy).2; omega)).ext hXk
      refine seqQ rfl rfl (yNilCheck rfl rfl) ?_
      refine seqQ rfl rfl (yFieldAddr rfl Try.underlying67 rfl Try.sizeOf25 rfl rfl) ?_
      -- e slot None: store T25 t43 t41
      refine seqE0 rfl rfl (stepStore (j := 25) rfl Try.sizeOf25 rfl rfl rfl rfl bk (Nat.le_of_ble_eq_true rfl) ?_)
      intro Hl hBl hKl
      obtain ⟨hml, ttl⟩ := hmg.deliver hX41 gr1 o6 hXk hKl hBl
      have h4l := h4k.keep hKl (by simp; omega)
      clear bk h4k hX41 hXk gr1 o6 hKl hBl hNk hMk hM41 hN41
      refine seqNil ?_
      refine hF6 _ _ ?_; clear hF6
      refine wpSeq fun F8 hF8 => ?_
      refine wpRegion ?_
      refine seqQ rfl rfl (yMove (v := .int _ _) rfl rfl) ?_
      refine seqQ rfl rfl (yNeq rfl rfl rfl) ?_
      refine seqNil ?_
      refine hF8 _ _ ?_; clear hF8
      -- if t45
      refine wpT rfl ?_
      refine wpSeq fun F9 hF9 => ?_
      refine wpRegion ?_
      refine seqQ rfl rfl (yLoadB h4l rfl Try.underlying27 rfl Try.sizeOf27 rfl) ?_
      -- e slot 48: call F56<farandole/packet.AckOf> t47
      refine seqE rfl rfl (stepCall rfl Try.call56 rfl ?_)
      refine (AckOf_c (msgS s) B1 C1 cb1 cc1 Hl (rd_nil rfl) (rd_nil rfl)).mono ?_
      rintro v Hp ⟨rfl, xp⟩
      rw [ackP_msg (by omega)]
      refine seqQ rfl rfl (yMove (v := .tuple _) rfl rfl) ?_
      refine seqQ rfl rfl (yExtract (v := .agg _) rfl rfl rfl) ?_
      refine seqQ rfl rfl (yExtract (v := .int _ _) rfl rfl rfl) ?_
      refine seqN rfl rfl (nAlloc rfl Try.zeroValue27 rfl) (fun g8 H8 hx8 hB8 hg8 hl8 => ?_)
      -- e slot None: store T27 t8 t49
      refine seqE0 rfl rfl (stepStoreB rfl (by kernel_rfl) rfl rfl rfl hB8 rfl ?_)
      intro Hq h8 hKq
      replace h8 : Blk Hq g8 (pkC (ackS s) none 0 none 0) 27 := h8
      have xq : Ext Hl Hq := xp.trans (hx8.mine hKq (by simp; omega))
      clear hB8 hKq hx8
      have hmq := (hml).ext xq
      refine seqQ rfl rfl (yAssign (v := .int _ _) rfl rfl) ?_
      refine seqNil ?_
      refine hF9 _ _ ?_; clear hF9
      refine wpSeq fun F10 hF10 => ?_
      refine wpRegion ?_
      refine seqQ rfl rfl (yMove (v := .pointer _) rfl rfl) ?_
      refine seqQ rfl rfl (yMove (v := .pointer _) rfl rfl) ?_
      refine seqQ rfl rfl (yNilCheck rfl rfl) ?_
      refine seqQ rfl rfl (yFieldAddr rfl Try.underlying67 rfl Try.sizeOf4 rfl rfl) ?_
      refine seqQ rfl rfl (yLoad rfl Try.underlying4 rfl rfl (show cellH Hq ((⟨gw, 0, none⟩ : Addr).add 26) = some (.bool false) from hmq.blk.cell rfl)) ?_
      refine seqQ rfl rfl (yMove (v := .bool false) rfl rfl) ?_
      refine seqQ rfl rfl (yMove (v := .int _ _) rfl rfl) ?_
      refine seqQ rfl rfl (yNeq rfl rfl rfl) ?_
      refine seqQ rfl rfl (yPickF (v := .bool _) rfl rfl rfl) ?_
      refine seqQ rfl rfl (yNilCheck rfl rfl) ?_
      refine seqQ rfl rfl (yFieldAddr rfl Try.underlying67 rfl Try.sizeOf4 rfl rfl) ?_
      -- e slot None: store T4 t61 t59
      rw [show (!decide ((0 : Int) = 0)) = false from rfl]
      refine seqE0 rfl rfl (stepStoreSame (v := .bool false) rfl Try.sizeOf4 rfl rfl rfl rfl hmq.blk (j := 26) rfl ?_)
      refine seqNil ?_
      refine hF10 _ _ ?_; clear hF10
      refine wpRegionD Try_mixed [.q, .q, .q, .q, .q, .q, .q, .e, .q, .q, .e] 8 [0, 0, 0, 4, 12, 28, 0, 126, 255, 511, 1023] [] (by kernel_rfl) _ rfl [0, 1, 2, 3, 4, 5, 6, 7] rfl (by simp) ?_
      refine lexQ rfl rfl rfl rfl (fun H hM => (yMove (v := .pointer _) rfl rfl)) ?_
      refine lexQ rfl rfl rfl rfl (fun H hM => (yMove (v := .pointer _) rfl rfl)) ?_
      refine lexQ rfl rfl rfl rfl (fun H hM => (yMove (v := .pointer _) rfl rfl)) ?_
      refine lexQ rfl rfl rfl rfl (fun H hM => (yNilCheck rfl rfl)) ?_
      refine lexQ rfl rfl rfl rfl (fun H hM => (yFieldAddr rfl Try.underlying67 rfl Try.sizeOf65 rfl rfl)) ?_
      refine lexQ rfl rfl rfl rfl (fun H hM => (yLoadC (cs := lkC (({ x with DA := V1, dc := c1 } : WX)).lb) rfl Try.underlying65 rfl Try.sizeOf65 rfl (fun j u hu => hM.ext.cell (hmq.blk.sub (off := 18) rfl j u hu)))) ?_
      refine lexQ rfl rfl rfl rfl (fun H hM => (yLoadB (h8.ext hM.ext) rfl Try.underlying27 rfl Try.sizeOf27 rfl)) ?_
      -- e slot 69: call F44<(*farandole/farandolelaw50.world).transmit> t63 t67 t68
      refine lexX0 rfl rfl rfl rfl rfl (by simp) (fun hM69 => stepCall rfl Try.call44 rfl ?_)
      refine (transmit_c gw _ (({ x with DA := V1, dc := c1 } : WX)).lb (ackS s) none none 0 0 Hq hmq.blk rfl hmq.mb.rd hmq.sb (by rw [hmq.lback]; exact ht.vback) (by rw [hmq.lback]; have := ht.sback; show w.back.sent < _; omega) (ackS_valid (by omega)) rfl rfl).mono ?_
      rintro v Hr ⟨L', rfl, eL, sL, nL, xr⟩
      refine ⟨xr, fun _ => ?_⟩
      have hmr := hmq.ext xr
      -- tail
      refine lexNil0 rfl (fun hM => ?_)
      refine seqQ rfl rfl (yNilCheck rfl rfl) ?_
      refine seqQ rfl rfl (yFieldAddr rfl Try.underlying67 rfl Try.sizeOf65 rfl rfl) ?_
      -- e slot None: store T65 t71 t69
      refine seqE0 rfl rfl (stepStoreSeg rfl (by kernel_rfl) rfl rfl rfl hmr.blk (Nat.le_of_ble_eq_true rfl) ?_)
      intro Hs hBs hKs
      obtain ⟨hms, tts⟩ := hmr.back (L := L') (l := sendF w.back (ackS s)) (nL.m (fun y hy => (hmq.lt y hy).2)) sL (eL.trans (by rw [hmq.lback])) hKs hBs
      refine fin0 rfl ?_
      have hF : arriveF w d = { w with last := s, dlv := w.dlv ++ [(s - 1) % 40], back := sendF w.back (ackS s) } := by
        unfold arriveF
        rw [hs, if_neg (by simp)]
        dsimp only
        rw [hsq, if_pos hn, if_pos hn]
        rfl
      rw [hF]
      exact ⟨{ x with DA := V1, dc := c1, lb := L' }, hms, (((Tr.of_ext (hE.trans x5) (wT gw w x)).trans ttg).trans ttl).trans ((Tr.of_ext (xq.trans xr) _).trans tts)⟩
    · skip
      have hsl : s ≤ w.last := by omega
      rw [show recvF w.last s = (w.last, 2) from by unfold recvF; rw [if_neg hn, if_pos ⟨s1, hsl⟩]] at h6 ⊢
      refine seqQ rfl rfl (yAssign (v := .int _ _) rfl rfl) ?_
      refine seqNil ?_
      refine hF4 _ _ ?_; clear hF4
      refine wpSeq fun F11 hF11 => ?_
      refine wpRegion ?_
      refine seqQ rfl rfl (yMove (v := .pointer _) rfl rfl) ?_
      refine seqQ rfl rfl (yLoadB h6 rfl Try.underlying62 rfl Try.sizeOf62 rfl) ?_
      refine seqQ rfl rfl (yNilCheck rfl rfl) ?_
      refine seqQ rfl rfl (yFieldAddr rfl Try.underlying67 rfl Try.sizeOf62 rfl rfl) ?_
      -- e slot None: store T62 t30 t28
      refine seqE0 rfl rfl (stepStoreSeg rfl (by kernel_rfl) rfl rfl rfl hmf.blk (Nat.le_of_ble_eq_true rfl) ?_)
      intro Hg hBg hKg
      obtain ⟨hmg, ttg⟩ := hmf.turn (w' := { w with last := w.last }) hKg hBg rfl rfl rfl hmf.pv
      have h4g := h4f.keep hKg (by simp; omega)
      refine seqNil ?_
      refine hF11 _ _ ?_; clear hF11
      refine wpSeq fun F12 hF12 => ?_
      refine wpSeq fun F13 hF13 => ?_
      refine wpRegion ?_
      refine seqQ rfl rfl (yMove (v := .int _ _) rfl rfl) ?_
      refine seqQ rfl rfl (yEql rfl rfl rfl) ?_
      refine seqNil ?_
      refine hF13 _ _ ?_; clear hF13
      -- if t32
      refine wpF rfl ?_
      refine wpSkip ?_
      refine hF12 _ _ ?_; clear hF12
      refine wpSeq fun F14 hF14 => ?_
      refine wpRegion ?_
      refine seqQ rfl rfl (yMove (v := .int _ _) rfl rfl) ?_
      refine seqQ rfl rfl (yNeq rfl rfl rfl) ?_
      refine seqNil ?_
      refine hF14 _ _ ?_; clear hF14
      -- if t45
      refine wpT rfl ?_
      refine wpSeq fun F15 hF15 => ?_
      refine wpRegion ?_
      refine seqQ rfl rfl (yLoadB h4g rfl Try.underlying27 rfl Try.sizeOf27 rfl) ?_
      -- e slot 48: call F56<farandole/packet.AckOf> t47
      refine seqE rfl rfl (stepCall rfl Try.call56 rfl ?_)
      refine (AckOf_c (msgS s) B1 C1 cb1 cc1 Hg (rd_nil rfl) (rd_nil rfl)).mono ?_
      rintro v Hp ⟨rfl, xp⟩
      rw [ackP_msg (by omega)]
      refine seqQ rfl rfl (yMove (v := .tuple _) rfl rfl) ?_
      refine seqQ rfl rfl (yExtract (v := .agg _) rfl rfl rfl) ?_
      refine seqQ rfl rfl (yExtract (v := .int _ _) rfl rfl rfl) ?_
      refine seqN rfl rfl (nAlloc rfl Try.zeroValue27 rfl) (fun g8 H8 hx8 hB8 hg8 hl8 => ?_)
      -- e slot None: store T27 t8 t49
      refine seqE0 rfl rfl (stepStoreB rfl (by kernel_rfl) rfl rfl rfl hB8 rfl ?_)
      intro Hq h8 hKq
      replace h8 : Blk Hq g8 (pkC (ackS s) none 0 none 0) 27 := h8
      have xq : Ext Hg Hq := xp.trans (hx8.mine hKq (by simp; omega))
      clear hB8 hKq hx8
      have hmq := (hmg).ext xq
      refine seqQ rfl rfl (yAssign (v := .int _ _) rfl rfl) ?_
      refine seqNil ?_
      refine hF15 _ _ ?_; clear hF15
      refine wpSeq fun F16 hF16 => ?_
      refine wpRegion ?_
      refine seqQ rfl rfl (yMove (v := .pointer _) rfl rfl) ?_
      refine seqQ rfl rfl (yMove (v := .pointer _) rfl rfl) ?_
      refine seqQ rfl rfl (yNilCheck rfl rfl) ?_
      refine seqQ rfl rfl (yFieldAddr rfl Try.underlying67 rfl Try.sizeOf4 rfl rfl) ?_
      refine seqQ rfl rfl (yLoad rfl Try.underlying4 rfl rfl (show cellH Hq ((⟨gw, 0, none⟩ : Addr).add 26) = some (.bool false) from hmq.blk.cell rfl)) ?_
      refine seqQ rfl rfl (yMove (v := .bool false) rfl rfl) ?_
      refine seqQ rfl rfl (yMove (v := .int _ _) rfl rfl) ?_
      refine seqQ rfl rfl (yNeq rfl rfl rfl) ?_
      refine seqQ rfl rfl (yPickF (v := .bool _) rfl rfl rfl) ?_
      refine seqQ rfl rfl (yNilCheck rfl rfl) ?_
      refine seqQ rfl rfl (yFieldAddr rfl Try.underlying67 rfl Try.sizeOf4 rfl rfl) ?_
      -- e slot None: store T4 t61 t59
      rw [show (!decide ((0 : Int) = 0)) = false from rfl]
      refine seqE0 rfl rfl (stepStoreSame (v := .bool false) rfl Try.sizeOf4 rfl rfl rfl rfl hmq.blk (j := 26) rfl ?_)
      refine seqNil ?_
      refine hF16 _ _ ?_; clear hF16
      refine wpRegionD Try_mixed [.q, .q, .q, .q, .q, .q, .q, .e, .q, .q, .e] 8 [0, 0, 0, 4, 12, 28, 0, 126, 255, 511, 1023] [] (by kernel_rfl) _ rfl [0, 1, 2, 3, 4, 5, 6, 7] rfl (by simp) ?_
      refine lexQ rfl rfl rfl rfl (fun H hM => (yMove (v := .pointer _) rfl rfl)) ?_
      refine lexQ rfl rfl rfl rfl (fun H hM => (yMove (v := .pointer _) rfl rfl)) ?_
      refine lexQ rfl rfl rfl rfl (fun H hM => (yMove (v := .pointer _) rfl rfl)) ?_
      refine lexQ rfl rfl rfl rfl (fun H hM => (yNilCheck rfl rfl)) ?_
      refine lexQ rfl rfl rfl rfl (fun H hM => (yFieldAddr rfl Try.underlying67 rfl Try.sizeOf65 rfl rfl)) ?_
      refine lexQ rfl rfl rfl rfl (fun H hM => (yLoadC (cs := lkC (x).lb) rfl Try.underlying65 rfl Try.sizeOf65 rfl (fun j u hu => hM.ext.cell (hmq.blk.sub (off := 18) rfl j u hu)))) ?_
      refine lexQ rfl rfl rfl rfl (fun H hM => (yLoadB (h8.ext hM.ext) rfl Try.underlying27 rfl Try.sizeOf27 rfl)) ?_
      -- e slot 69: call F44<(*farandole/farandolelaw50.world).transmit> t63 t67 t68
      refine lexX0 rfl rfl rfl rfl rfl (by simp) (fun hM69 => stepCall rfl Try.call44 rfl ?_)
      refine (transmit_c gw _ (x).lb (ackS s) none none 0 0 Hq hmq.blk rfl hmq.mb.rd hmq.sb (by rw [hmq.lback]; exact ht.vback) (by rw [hmq.lback]; have := ht.sback; show w.back.sent < _; omega) (ackS_valid (by omega)) rfl rfl).mono ?_
      rintro v Hr ⟨L', rfl, eL, sL, nL, xr⟩
      refine ⟨xr, fun _ => ?_⟩
      have hmr := hmq.ext xr
      -- tail
      refine lexNil0 rfl (fun hM => ?_)
      refine seqQ rfl rfl (yNilCheck rfl rfl) ?_
      refine seqQ rfl rfl (yFieldAddr rfl Try.underlying67 rfl Try.sizeOf65 rfl rfl) ?_
      -- e slot None: store T65 t71 t69
      refine seqE0 rfl rfl (stepStoreSeg rfl (by kernel_rfl) rfl rfl rfl hmr.blk (Nat.le_of_ble_eq_true rfl) ?_)
      intro Hs hBs hKs
      obtain ⟨hms, tts⟩ := hmr.back (L := L') (l := sendF w.back (ackS s)) (nL.m (fun y hy => (hmq.lt y hy).2)) sL (eL.trans (by rw [hmq.lback])) hKs hBs
      refine fin0 rfl ?_
      have hF : arriveF w d = { w with back := sendF w.back (ackS s) } := by
        unfold arriveF
        rw [hs, if_neg (by simp)]
        dsimp only
        rw [hsq, if_neg hn, if_neg hn]
      rw [hF]
      exact ⟨{ x with lb := L' }, hms, ((Tr.of_ext (hE.trans x5) (wT gw w x)).trans ttg).trans ((Tr.of_ext (xq.trans xr) _).trans tts)⟩
set_option maxRecDepth 100000 in
theorem returned_c (gw b : Nat) (w : Wd) (x : WX) (aa bb : Int) (d : List UInt8) (A : Option Addr) (ca : Nat) (H : Heap) (hm : WM gw b w x H) (ht : TI aa bb w) (hA : Rd eByte H A d) (hca : d.length ≤ ca) (hdl : d.length ≤ 100000) (hd : BackOk w.last d) :
    CallsH Try.prog 43 [.pointer (some ⟨gw, 0, none⟩), .slice A d.length ca] H fun _ H' => ∃ x', WM gw b (returnedF w d) x' H' ∧ Tr (wT gw w x) H (wT gw (returnedF w d) x') H' := by
  have hgb := hm.gb
  have hnow := ht.now
  have hoff := ht.off
  refine callsH_of Try.func43 rfl Try.ntmps43 (Nat.le_of_ble_eq_true rfl) ?_
  refine wpSeq fun F1 hF1 => ?_
  refine wpRegion ?_
  refine seqQ rfl rfl (yMove (v := .slice _ _ _) rfl rfl) ?_
  -- e slot 10: call F55<farandole/packet.Decode> t9
  refine seqE rfl rfl (stepCall rfl Try.call55 rfl ?_)
  refine (Decode_c A ca d H hA hca (by omega)).mono ?_
  rintro v H1 ⟨B1, cb1, C1, cc1, rfl, ov, oc, x1⟩
  refine seqQ rfl rfl (yMove (v := .tuple _) rfl rfl) ?_
  refine seqQ rfl rfl (yExtract (v := .agg _) rfl rfl rfl) ?_
  refine seqQ rfl rfl (yExtract (v := .int _ _) rfl rfl rfl) ?_
  refine seqN rfl rfl (nAlloc rfl Try.zeroValue27 rfl) (fun g4 H4 hx4 hB4 hg4 hl4 => ?_)
  -- e slot None: store T27 t4 t11
  refine seqE0 rfl rfl (stepStoreB rfl (by kernel_rfl) rfl rfl rfl hB4 rfl ?_)
  intro H2 h4 hK2
  have x2 : Ext H1 H2 := hx4.mine hK2 (by simp; omega)
  have hg4 : H.size ≤ g4 := Nat.le_trans x1.size hg4
  have hgwl : gw < H.size := hm.blk.lt
  clear hK2 hB4 hx4
  have hE := x1.trans x2
  refine seqQ rfl rfl (yAssign (v := .int _ _) rfl rfl) ?_
  refine seqNil ?_
  refine hF1 _ _ ?_; clear hF1
  refine wpSeq fun F2 hF2 => ?_
  refine wpSeq fun F3 hF3 => ?_
  refine wpRegion ?_
  refine seqQ rfl rfl (yMove (v := .int _ _) rfl rfl) ?_
  refine seqQ rfl rfl (yNeq rfl rfl rfl) ?_
  refine seqNil ?_
  refine hF3 _ _ ?_; clear hF3
  -- if t14
  refine wpCond rfl (fun he => ?_) (fun he => ?_)
  · skip
    have he : (decP d).1 ≠ 0 := by simpa using he
    refine wpRet (fin0 rfl ?_)
    unfold returnedF
    rw [if_pos he]
    exact ⟨x, hm.ext hE, Tr.of_ext hE _⟩
  · skip
    have he : (decP d).1 = 0 := by simpa using he
    obtain ⟨s, s1, s2, hs⟩ := hd.resolve_left (fun h => h he)
    rw [hs] at h4
    replace h4 : Blk H2 g4 (pkC (ackS s) B1 cb1 C1 cc1) 27 := h4
    have hm2 := hm.ext hE
    have hsdp := ht.sdp
    refine wpSkip ?_
    refine hF2 _ _ ?_; clear hF2
    refine wpSeq fun F4 hF4 => ?_
    refine wpRegionD Try_mixed [.q, .q, .q, .q, .q, .q, .e, .q, .q, .q, .n, .e, .q] 12 [0, 1, 3, 7, 0, 16, 63, 127, 255, 255, 0, 1535, 4095] [] (by kernel_rfl) _ rfl [0, 1, 2, 3, 4, 5, 6, 7, 8, 9, 10, 11] rfl (by simp) ?_
    refine lexQ rfl rfl rfl rfl (fun H hM => (yMove (v := .pointer _) rfl rfl)) ?_
    refine lexQ rfl rfl rfl rfl (fun H hM => (yNilCheck rfl rfl)) ?_
    refine lexQ rfl rfl rfl rfl (fun H hM => (yFieldAddr rfl Try.underlying67 rfl Try.sizeOf29 rfl rfl)) ?_
    refine lexQ rfl rfl rfl rfl (fun H hM => (yLoadC (cs := sdC w.snd x.A x.ca x.B x.cb) rfl Try.underlying29 rfl Try.sizeOf29 rfl (fun j u hu => hM.ext.cell (hm2.blk.sub (off := 0) rfl j u hu)))) ?_
    refine lexQ rfl rfl rfl rfl (fun H hM => (yFieldAddr rfl Try.underlying27 rfl Try.sizeOf3 rfl rfl)) ?_
    refine lexQ rfl rfl rfl rfl (fun H hM => (yLoad rfl Try.underlying3 rfl rfl (hM.ext.cell (h4.cell (j := 5) rfl)))) ?_
    -- e slot 22: call F16<farandole/transport.Acked> t19 t21
    refine lexX rfl rfl rfl rfl (by simp) (fun H22 hX22 hM22 hN22 => stepCall rfl Try.call16 rfl ?_)
    refine (acked_c w.snd s x.A x.B x.ca x.cb H22 (rd_nil hm.pv.1) (rd_nil hm.pv.2) (by rw [hm.pv.1]; simp) (by rw [hm.pv.2]; simp)).mono ?_
    rintro v H3 ⟨rfl, x3⟩
    refine ⟨x3, fun _ => ?_⟩
    refine lexQ rfl rfl rfl rfl (fun H hM => (yMove (v := .tuple _) rfl rfl)) ?_
    refine lexQ rfl rfl rfl rfl (fun H hM => (yExtract (v := .agg _) rfl rfl rfl)) ?_
    refine lexQ rfl rfl rfl rfl (fun H hM => (yExtract (v := .int _ _) rfl rfl rfl)) ?_
    refine lexNB rfl rfl rfl rfl (nAlloc rfl Try.zeroValue29 rfl) (fun g6 hg6 hne6 => ?_)
    -- e slot None: store T29 t6 t23
    refine lexES0 rfl rfl rfl rfl (by first | assumption | omega) (by first | (dsimp only; rfl) | kernel_rfl) (by simp) (fun Hs hXs hMs hBs hFs => stepStoreB rfl (by kernel_rfl) rfl rfl rfl hBs rfl ?_)
    intro H5 h6 hK5
    refine ⟨hK5, fun b hb => by simp at hb, ?_⟩
    -- tail
    refine lexNil (fun Hf hXf hMf hNf => ?_)
    have x5 : Ext H2 Hf := (((hX22.trans x3).trans hXs).mine hK5 (by simp; omega)).trans hXf
    replace h6 := h6.ext hXf
    have hmf := hm2.ext x5
    clear hX22 x3 hXs hK5 hFs hBs
    by_cases hc : w.snd.busy = true ∧ s = w.snd.pk.seq
    · skip
      have ea : ackedF w.snd s = (0, { sd0 with next := w.snd.next }) := by
        unfold ackedF
        rw [if_neg (fun h => h hsdp), if_neg (by rw [hc.1, hc.2]; simp)]
      rw [ea] at h6 ⊢
      have hF : returnedF w d = { w with snd := ⟨w.snd.next, false, pk0, 0, 0⟩, acked := w.acked + 1 } := by
        unfold returnedF
        rw [hs, if_neg (by simp)]
        exact if_pos hc
      refine seqQ rfl rfl (yAssign (v := .int _ _) rfl rfl) ?_
      refine seqNil ?_
      refine hF4 _ _ ?_; clear hF4
      refine wpSeq fun F5 hF5 => ?_
      refine wpRegion ?_
      refine seqQ rfl rfl (yMove (v := .int _ _) rfl rfl) ?_
      refine seqQ rfl rfl (yEql rfl rfl rfl) ?_
      refine seqNil ?_
      refine hF5 _ _ ?_; clear hF5
      -- if t26
      refine wpT rfl ?_
      refine wpSeq fun F6 hF6 => ?_
      refine wpRegion ?_
      refine seqQ rfl rfl (yMove (v := .pointer _) rfl rfl) ?_
      refine seqQ rfl rfl (yLoadB h6 rfl Try.underlying29 rfl Try.sizeOf29 rfl) ?_
      refine seqQ rfl rfl (yNilCheck rfl rfl) ?_
      refine seqQ rfl rfl (yFieldAddr rfl Try.underlying67 rfl Try.sizeOf29 rfl rfl) ?_
      -- e slot None: store T29 t30 t28
      refine seqE0 rfl rfl (stepStoreSeg rfl (by kernel_rfl) rfl rfl rfl hmf.blk (Nat.le_of_ble_eq_true rfl) ?_)
      intro Hg hBg hKg
      obtain ⟨hmg, ttg⟩ := hmf.turnS (s := ⟨w.snd.next, false, pk0, 0, 0⟩) (A := none) (ca := 0) (B := none) (cb := 0) hKg hBg ⟨rfl, rfl⟩
      refine seqNil ?_
      refine hF6 _ _ ?_; clear hF6
      refine wpRegion ?_
      refine seqQ rfl rfl (yMove (v := .pointer _) rfl rfl) ?_
      refine seqQ rfl rfl (yNilCheck rfl rfl) ?_
      refine seqQ rfl rfl (yFieldAddr rfl Try.underlying67 rfl Try.sizeOf3 rfl rfl) ?_
      refine seqQ rfl rfl (yLoad rfl Try.underlying3 rfl rfl (show cellH Hg ((⟨gw, 0, none⟩ : Addr).add 24) = some (.int .i64 w.acked) from hmg.blk.cell rfl)) ?_
      refine seqQ rfl rfl (yAdd rfl rfl rfl (by have := ht.busy hc.1; unfold In64; omega)) ?_
      refine seqQ rfl rfl (yNilCheck rfl rfl) ?_
      refine seqQ rfl rfl (yFieldAddr rfl Try.underlying67 rfl Try.sizeOf3 rfl rfl) ?_
      -- e slot None: store T3 t37 t35
      refine seqE0 rfl rfl (stepStore rfl Try.sizeOf3 rfl rfl rfl rfl hmg.blk (Nat.le_of_ble_eq_true rfl) ?_)
      intro Hk hBk hKk
      obtain ⟨hmk, ttk⟩ := hmg.turn (w' := { w with snd := ⟨w.snd.next, false, pk0, 0, 0⟩, acked := w.acked + 1 }) hKk hBk rfl rfl rfl ⟨rfl, rfl⟩
      refine fin0 rfl ?_
      rw [hF]
      exact ⟨_, hmk, ((Tr.of_ext (hE.trans x5) (wT gw w x)).trans ttg).trans ttk⟩
    · skip
      have ea : (ackedF w.snd s).1 ≠ 0 := by
        unfold ackedF
        rw [if_neg (fun h => h hsdp), if_pos (by
          cases hb : w.snd.busy with
          | false => exact .inl rfl
          | true => exact .inr fun e => hc ⟨hb, e.symm⟩)]
        decide
      have hF : returnedF w d = w := by
        unfold returnedF
        rw [hs, if_neg (by simp)]
        exact if_neg hc
      refine seqQ rfl rfl (yAssign (v := .int _ _) rfl rfl) ?_
      refine seqNil ?_
      refine hF4 _ _ ?_; clear hF4
      refine wpSeq fun F7 hF7 => ?_
      refine wpRegion ?_
      refine seqQ rfl rfl (yMove (v := .int _ _) rfl rfl) ?_
      refine seqQ rfl rfl (yEql rfl rfl rfl) ?_
      refine seqNil ?_
      refine hF7 _ _ ?_; clear hF7
      -- if t26
      rw [decide_eq_false ea]
      refine wpF rfl ?_
      refine wpSkip ?_
      -- end top
      refine fin0 rfl ?_
      rw [hF]
      exact ⟨x, hmf, Tr.of_ext (hE.trans x5) _⟩
end Go.Proofs.Ytcfnmklbkhibgaa
