/- Layer 50: a tick of the world. -/
import Derived.Test.YtcfnmklbkhibgaaU5
namespace Go.Proofs.Ytcfnmklbkhibgaa
open Go.RowKit

/-- Packets that do not turn. -/
structure PM (M : List Nat) (H : Heap) (A : Option Addr) (bs : List BH) : Prop where
  rd : RdM eBH M H A bs
  data : ∀ y ∈ bs, RdM eByte M H y.A y.data
set_option maxRecDepth 100000 in
theorem PM.tr {M M' : List Nat} {H H' : Heap} {A : Option Addr} {bs : List BH} (h : PM M H A bs) (t : Tr M H M' H') : PM M' H' A bs := ⟨h.rd.tr t, fun y hy => (h.data y hy).tr t⟩
set_option maxRecDepth 100000 in
theorem PksRd.pm {H : Heap} {base n c : Nat} {A : Option Addr} {bs : List BH} {M : List Nat} (h : PksRd H base (.slice A n c) bs) (hM : ∀ y ∈ M, y < base) : PM M H A bs :=
  ⟨RdM.of h.rd fun p e hm => (by have := (h.own.lt p.block (by rw [e]; rfl)).1; have := hM _ hm; omega), fun y hy => RdM.of (h.data y hy) fun p e hm => (by have := h.low y hy p e; have := hM _ hm; omega)⟩
set_option maxRecDepth 100000 in
theorem res_eq {a b : Int} {w : Wd} (h : TI a b w) : resendF w.snd w.now = if w.snd.busy = true ∧ w.snd.due ≤ w.now then ({ w.snd with tries := w.snd.tries + 1, due := w.now + min (ivl (w.snd.tries + 1)) 64 }, w.snd.pk, true) else (w.snd, pk0, false) := by
  have hs := h.sdp
  have hn := h.now
  unfold resendF
  by_cases hc : w.snd.busy = true ∧ w.snd.due ≤ w.now
  · rw [if_pos hc, if_pos ⟨hs, by unfold TimeP; omega, hc.1, hc.2, by have := (h.busy hc.1).2.2.1; omega⟩]
  · rw [if_neg hc, if_neg (fun hd => hc ⟨hd.2.2.1, hd.2.2.2.1⟩)]
set_option maxRecDepth 100000 in
theorem offer_eq {a b : Int} {w : Wd} (h : TI a b w) (hb : w.snd.busy = false) (ho : w.offered < 100) : offerF w.snd (msg (w.offered % 40)) w.now = (0, ⟨w.snd.next + 1, true, msgS (w.offered + 1), w.now + 8, 1⟩, msgS (w.offered + 1)) := by
  have hs := h.sdp
  have hn := h.now
  have ho2 := h.off
  have hx := h.next
  have e : ({ msg (w.offered % 40) with seq := w.snd.next } : Pk) = msgS (w.offered + 1) := by
    rw [hx]
    unfold msg msgS
    rw [show w.offered + 1 - 1 = w.offered by omega]
  have hv : ValidP (msgS (w.offered + 1)) := msgS_valid (by omega)
  unfold offerF
  rw [if_neg (fun h => h.elim (fun h => h hs) (fun h => h (by unfold TimeP; omega))), if_neg (by rw [hb]; simp), if_neg (by omega), e, if_neg (fun h => h.elim (fun h => h rfl) (fun h => h hv))]
set_option maxRecDepth 100000 in
theorem arrive_last (w : Wd) (d : List UInt8) : w.last ≤ (arriveF w d).last := by
  unfold arriveF
  split
  · exact Int.le_refl _
  · show w.last ≤ if (decP d).2.seq = w.last + 1 then (decP d).2.seq else w.last
    split <;> omega
set_option maxRecDepth 100000 in
theorem fold_take {α β γ : Type} (f : γ → β → γ) (g : α → β) (c : γ) (l : List α) {i : Nat} (h : i < l.length) : ((l.take (i + 1)).map g).foldl f c = f (((l.take i).map g).foldl f c) (g l[i]) := by
  rw [List.take_succ_eq_append_getElem h, List.map_append, List.foldl_append]
  rfl
set_option maxRecDepth 100000 in
theorem bh_at {H : Heap} {A : Option Addr} {l : List BH} {k : Nat} (h : Rd eBH H A l) (hk : k < l.length) : ∃ p, A = some p ∧ cellH H (p.add k) = some (.slice l[k].A l[k].data.length l[k].cap) := by
  obtain ⟨p, e, hp⟩ := h.at hk
  have := hp 0 _ rfl
  rw [add_of_add, show k * eBH.sz + 0 = k by show k * 1 + 0 = k; omega] at this
  exact ⟨p, e, this⟩
set_option maxRecDepth 100000 in
theorem tick_small {l : Lk} (h : ValidL l) : ∀ d ∈ (tickL l).2, d.length ≤ 100000 := fun d hd => by
  unfold tickL at hd
  split at hd
  · cases hd
  · obtain ⟨y, hy, rfl⟩ := List.mem_map.1 hd
    have := (h.good.rng y ((List.takeWhile_sublist _).subset hy)).2.2
    omega
set_option maxRecDepth 100000 in
theorem wtick_c (gw b : Nat) (w : Wd) (x : WX) (aa bb total : Int) (H : Heap) (hm : WM gw b w x H) (ht : TI aa bb w) (hnow : w.now < 1000) (ha : aa + 1 < 1099511627776) (hbb : bb + 300 < 1099511627776) (hto : total ≤ 100) :
    CallsH Try.prog 25 [.pointer (some ⟨gw, 0, none⟩), .int .i64 total] H fun _ H' => ∃ x', WM gw b (tickF total w) x' H' ∧ Tr (wT gw w x) H (wT gw (tickF total w) x') H' := by
  have hgb := hm.gb
  have hn0 := ht.now
  obtain ⟨hcl, hfo, hfb⟩ := ht.clock hnow
  obtain ⟨hmid, htr⟩ := ht.mid hnow hbb
  have hres := hmid.res (by omega) htr
  have hfin := hres.offer ha hto
  have lf1 := tick_few ht.vout
  have lf2 := tick_few ht.vback
  refine callsH_of Try.func25 rfl Try.ntmps25 (Nat.le_of_ble_eq_true rfl) ?_
  refine wpSeq fun F1 hF1 => ?_
  refine wpRegion ?_
  refine seqQ rfl rfl (yMove (v := .pointer _) rfl rfl) ?_
  refine seqQ rfl rfl (yNilCheck rfl rfl) ?_
  refine seqQ rfl rfl (yFieldAddr rfl Try.underlying67 rfl Try.sizeOf3 rfl rfl) ?_
  refine seqQ rfl rfl (yLoad rfl Try.underlying3 rfl rfl (show cellH H ((⟨gw, 0, none⟩ : Addr).add 22) = some (.int .i64 w.now) from hm.blk.cell rfl)) ?_
  refine seqQ rfl rfl (yAdd rfl rfl rfl (by unfold In64; omega)) ?_
  refine seqQ rfl rfl (yNilCheck rfl rfl) ?_
  refine seqQ rfl rfl (yFieldAddr rfl Try.underlying67 rfl Try.sizeOf3 rfl rfl) ?_
  -- e slot None: store T3 t22 t20
  refine seqE0 rfl rfl (stepStore rfl Try.sizeOf3 rfl rfl rfl rfl hm.blk (Nat.le_of_ble_eq_true rfl) ?_)
  intro Ha hB1 hK1
  obtain ⟨hm1, tt1⟩ := hm.turn (w' := { w with now := w.now + 1 }) hK1 hB1 rfl rfl rfl hm.pv
  clear hB1 hK1
  refine seqNil ?_
  refine hF1 _ _ ?_; clear hF1
  refine wpSeq fun F2 hF2 => ?_
  refine wpRegion ?_
  refine seqQ rfl rfl (yMove (v := .pointer _) rfl rfl) ?_
  refine seqQ rfl rfl (yNilCheck rfl rfl) ?_
  refine seqQ rfl rfl (yFieldAddr rfl Try.underlying67 rfl Try.sizeOf65 rfl rfl) ?_
  refine seqQ rfl rfl (yLoadC (cs := lkC x.lo) rfl Try.underlying65 rfl Try.sizeOf65 rfl (hm1.blk.sub (off := 14) rfl)) ?_
  -- e slot 28: call F41<farandole/link.Tick> t27
  refine seqE rfl rfl (stepCall rfl Try.call41 rfl ?_)
  refine (tick_c x.lo Ha hm1.mo.rd hm1.so).mono ?_
  rintro v Hb ⟨L1, V1, c1, bs1, rfl, eL1, eb1, nL1, pk1, x2⟩
  have hm2 := hm1.ext x2
  refine seqQ rfl rfl (yMove (v := .tuple _) rfl rfl) ?_
  refine seqQ rfl rfl (yExtract (v := .agg _) rfl rfl rfl) ?_
  refine seqQ rfl rfl (yExtract (v := .slice _ _ _) rfl rfl rfl) ?_
  refine seqN rfl rfl (nAlloc rfl Try.zeroValue65 rfl) (fun g4 H4 hx4 hB4 hg4 hl4 => ?_)
  -- e slot None: store T65 t4 t29
  refine seqE0 rfl rfl (stepStoreB rfl (by kernel_rfl) rfl rfl rfl hB4 rfl ?_)
  intro Hc h4 hK3
  have x3 : Ext Hb Hc := hx4.mine hK3 (by simp; omega)
  have hm3 := hm2.ext x3
  clear hB4 hK3 hx4
  refine seqQ rfl rfl (yAssign (v := .slice _ _ _) rfl rfl) ?_
  refine seqNil ?_
  refine hF2 _ _ ?_; clear hF2
  refine wpSeq fun F3 hF3 => ?_
  refine wpRegion ?_
  refine seqQ rfl rfl (yMove (v := .pointer _) rfl rfl) ?_
  refine seqQ rfl rfl (yNilCheck rfl rfl) ?_
  refine seqQ rfl rfl (yFieldAddr rfl Try.underlying67 rfl Try.sizeOf65 rfl rfl) ?_
  refine seqQ rfl rfl (yLoadC (cs := lkC x.lb) rfl Try.underlying65 rfl Try.sizeOf65 rfl (hm3.blk.sub (off := 18) rfl)) ?_
  -- e slot 36: call F41<farandole/link.Tick> t35
  refine seqE rfl rfl (stepCall rfl Try.call41 rfl ?_)
  refine (tick_c x.lb Hc hm3.mb.rd hm3.sb).mono ?_
  rintro v Hd ⟨L2, V2, c2, bs2, rfl, eL2, eb2, nL2, pk2, x4⟩
  have hm4 := hm3.ext x4
  refine seqQ rfl rfl (yMove (v := .tuple _) rfl rfl) ?_
  refine seqQ rfl rfl (yExtract (v := .agg _) rfl rfl rfl) ?_
  refine seqQ rfl rfl (yExtract (v := .slice _ _ _) rfl rfl rfl) ?_
  refine seqN rfl rfl (nAlloc rfl Try.zeroValue65 rfl) (fun g6 H6 hx6 hB6 hg6 hl6 => ?_)
  -- e slot None: store T65 t6 t37
  refine seqE0 rfl rfl (stepStoreB rfl (by kernel_rfl) rfl rfl rfl hB6 rfl ?_)
  intro He h6 hK5
  have x5 : Ext Hd He := hx6.mine hK5 (by simp; omega)
  have hm5 := hm4.ext x5
  replace h4 := (h4.ext x4).ext x5
  clear hB6 hK5 hx6
  have sm1 : LkSm L1 := LkRd.sm_tick hm1.so eL1
  have sm2 : LkSm L2 := LkRd.sm_tick hm3.sb eL2
  rw [hm1.lout] at eL1 eb1
  rw [hm3.lback] at eL2 eb2
  have ml1 : LkM (wT gw { w with now := w.now + 1 } x) He L1 := (nL1.m fun y hy => (hm1.lt y hy).2).tr (Tr.of_ext ((x3.trans x4).trans x5) _)
  have ml2 : LkM (wT gw { w with now := w.now + 1 } x) He L2 := (nL2.m fun y hy => (hm3.lt y hy).2).tr (Tr.of_ext x5 _)
  have mp1 : PM (wT gw { w with now := w.now + 1 } x) He V1 bs1 := (pk1.pm fun y hy => (hm1.lt y hy).2).tr (Tr.of_ext ((x3.trans x4).trans x5) _)
  have mp2 : PM (wT gw { w with now := w.now + 1 } x) He V2 bs2 := (pk2.pm fun y hy => (hm3.lt y hy).2).tr (Tr.of_ext x5 _)
  have ff1 : ∀ y ∈ bs1, y.data.length ≤ y.cap := pk1.cap
  have ff2 : ∀ y ∈ bs2, y.data.length ≤ y.cap := pk2.cap
  have tt5 := tt1.trans (Tr.of_ext (((x2.trans x3).trans x4).trans x5) (wT gw { w with now := w.now + 1 } x))
  have hg6 : g4 ≠ gw ∧ g6 ≠ gw := by
    have := hm1.blk.lt
    have := x2.size
    have := x3.size
    have := x4.size
    constructor <;> omega
  have hl5 := hm5.blk.lt
  clear hm1 hm2 hm3 hm4 nL1 nL2 pk1 pk2 x2 x3 x4 x5 tt1
  refine seqQ rfl rfl (yAssign (v := .slice _ _ _) rfl rfl) ?_
  refine seqNil ?_
  refine hF3 _ _ ?_; clear hF3
  refine wpSeq fun F4 hF4 => ?_
  refine wpRegionD Try_mixed [.q, .q, .q, .q, .q, .q, .e, .q, .q, .e] 7 [0, 0, 0, 0, 5, 21, 53, 127, 255, 511] [gw] (by kernel_rfl) _ rfl [0, 1, 2, 3, 4, 5, 6] rfl (by simp; omega) ?_
  refine lexQ rfl rfl rfl rfl (fun H hM => (yMove (v := .pointer _) rfl rfl)) ?_
  refine lexQ rfl rfl rfl rfl (fun H hM => (yMove (v := .pointer _) rfl rfl)) ?_
  refine lexQ rfl rfl rfl rfl (fun H hM => (yLoadB (h4.keep hM (by simp; omega)) rfl Try.underlying65 rfl Try.sizeOf65 rfl)) ?_
  refine lexQ rfl rfl rfl rfl (fun H hM => (yLoadB (h6.keep hM (by simp; omega)) rfl Try.underlying65 rfl Try.sizeOf65 rfl)) ?_
  refine lexQ rfl rfl rfl rfl (fun H hM => (yNilCheck rfl rfl)) ?_
  refine lexQ rfl rfl rfl rfl (fun H hM => (yFieldAddr rfl Try.underlying67 rfl Try.sizeOf65 rfl rfl)) ?_
  -- e slot None: store T65 t44 t41
  refine lexE00 rfl rfl rfl rfl rfl (fun hMNone => stepStoreSeg rfl (by kernel_rfl) rfl rfl rfl hm5.blk (Nat.le_of_ble_eq_true rfl) ?_)
  intro H6 hB6 hK6
  refine lexSt hK6 (by simp) (by simp; omega) ?_
  obtain ⟨hm6, tt6⟩ := hm5.outL (L := L1) (l := (tickL w.out).1) ml1 sm1 eL1 hK6 hB6
  have ml2' := ml2.tr tt6
  have mp1' := mp1.tr tt6
  have mp2' := mp2.tr tt6
  clear hB6 hK6 ml2 mp1 mp2 ml1
  -- tail
  refine lexNil0 rfl (fun hM => ?_)
  refine seqQ rfl rfl (yNilCheck rfl rfl) ?_
  refine seqQ rfl rfl (yFieldAddr rfl Try.underlying67 rfl Try.sizeOf65 rfl rfl) ?_
  -- e slot None: store T65 t46 t42
  refine seqE0 rfl rfl (stepStoreSeg rfl (by kernel_rfl) rfl rfl rfl hm6.blk (Nat.le_of_ble_eq_true rfl) ?_)
  intro H7 hB7 hK7
  obtain ⟨hm7, tt7⟩ := hm6.back (L := L2) (l := (tickL w.back).1) ml2' sm2 eL2 hK7 hB7
  replace mp1 := mp1'.tr tt7
  replace mp2 := mp2'.tr tt7
  replace tt7 := (tt5.trans tt6).trans tt7
  clear hB7 hK7 ml2' mp1' mp2' hm5 hm6 h4 h6 tt5 tt6
  generalize hx7 : ({ { x with lo := L1 } with lb := L2 } : WX) = x7 at hm7 tt7 mp1 mp2
  change WM gw b (clockF w) x7 H7 at hm7
  change Tr (wT gw w x) H (wT gw (clockF w) x7) H7 at tt7
  change PM (wT gw (clockF w) x7) H7 V1 bs1 at mp1
  change PM (wT gw (clockF w) x7) H7 V2 bs2 at mp2
  have hd1 : ∀ y ∈ bs1, OutOk w.offered y.data ∧ y.data.length ≤ 100000 := fun y hy => by
    have hy' := List.mem_map_of_mem (f := BH.data) hy
    rw [eb1] at hy'
    exact ⟨hfo _ hy', tick_small ht.vout _ hy'⟩
  have hd2 : ∀ y ∈ bs2, BackOk w.last y.data ∧ y.data.length ≤ 100000 := fun y hy => by
    have hy' := List.mem_map_of_mem (f := BH.data) hy
    rw [eb2] at hy'
    exact ⟨hfb _ hy', tick_small ht.vback _ hy'⟩
  have hbl1 : bs1.length ≤ 300 := by have := congrArg List.length eb1; rw [List.length_map] at this; rw [this]; exact lf1
  have hbl2 : bs2.length ≤ 300 := by have := congrArg List.length eb2; rw [List.length_map] at this; rw [this]; exact lf2
  clear hx7 eL1 eL2 sm1 sm2
  refine seqNil ?_
  refine hF4 _ _ ?_; clear hF4
  refine wpSeq fun F5 hF5 => ?_
  refine wpSeq fun F6 hF6 => ?_
  refine wpRegion ?_
  refine seqQ rfl rfl (yAssign (v := .int _ _) rfl rfl) ?_
  refine seqNil ?_
  refine hF6 _ _ ?_; clear hF6
  -- loop
  refine wpBlock ?_
  refine wpLoopS [8, 47, 48, 49, 50, 51, 52, 53, 54, 55, 56, 57, 58] (fun i : Nat => [(8, .int .i64 i)]) (fun i H' => i ≤ bs1.length ∧ ∃ w' x', ((bs1.take i).map BH.data).foldl arriveF (clockF w) = w' ∧ WM gw b w' x' H' ∧ TI aa (bb + i) w' ∧ w'.offered = w.offered ∧ w.last ≤ w'.last ∧ PM (wT gw w' x') H' V1 bs1 ∧ PM (wT gw w' x') H' V2 bs2 ∧ Tr (wT gw w x) H (wT gw w' x') H') (fun i => bs1.length - i) 0 ⟨rfl, trivial⟩ ⟨Nat.zero_le _, clockF w, x7, rfl, hm7, hcl.mono (Int.le_refl _) (by omega), rfl, Int.le_refl _, mp1, mp2, tt7⟩ ?_
  rintro i J Hk ⟨hk, w1, x1, e1, hm1, ht1, ho1, hl1, mp1, mp2, tt1⟩
  clear hm7 tt7
  refine wpSeq fun F7 hF7 => ?_
  refine wpSeq fun F8 hF8 => ?_
  refine wpRegion ?_
  refine seqQ rfl rfl (yMove (v := .int _ _) rfl rfl) ?_
  refine seqQ rfl rfl (yMove (v := .slice _ _ _) rfl rfl) ?_
  refine seqQ rfl rfl (yLen rfl Try.underlying84 rfl) ?_
  refine seqQ rfl rfl (yLss rfl rfl rfl) ?_
  refine seqNil ?_
  refine hF8 _ _ ?_; clear hF8
  -- if t50
  refine wpIf rfl (fun hpos => ?_) (fun hpos => ?_)
  · skip
    have hk : i < bs1.length := by omega
    obtain ⟨p, ep, hp⟩ := bh_at mp1.rd.rd hk
    refine wpSkip ?_
    refine hF7 _ _ ?_; clear hF7
    refine wpSeq fun F9 hF9 => ?_
    refine wpBlock ?_
    refine wpRegion ?_
    refine seqQ rfl rfl (yMove (v := .pointer _) rfl rfl) ?_
    refine seqQ rfl rfl (yMove (v := .slice _ _ _) rfl rfl) ?_
    refine seqQ rfl rfl (yMove (v := .int _ _) rfl rfl) ?_
    refine seqQ rfl rfl (yIdxP1 rfl Try.underlying84 Try.sizeOf58 rfl rfl ep rfl hk) ?_
    refine seqQ rfl rfl (yLoad rfl Try.underlying58 rfl rfl hp) ?_
    -- e slot 58: call F42<(*farandole/farandolelaw50.world).arrive> t53 t57
    refine seqE rfl rfl (stepCall rfl Try.call42 rfl ?_)
    refine (arrive_c gw b w1 x1 aa (bb + i) bs1[i].data bs1[i].A bs1[i].cap Hk hm1 ht1 (by omega) (mp1.data _ (List.getElem_mem hk)).rd (ff1 _ (List.getElem_mem hk)) (hd1 _ (List.getElem_mem hk)).2 (by rw [ho1]; exact (hd1 _ (List.getElem_mem hk)).1)).mono ?_
    rintro v Hl ⟨x2, hm2, tt2⟩
    refine seqNil ?_
    refine hF9 _ _ ?_; clear hF9
    refine wpRegion ?_
    refine seqQ rfl rfl (yMove (v := .int _ _) rfl rfl) ?_
    refine seqQ rfl rfl (yAdd rfl rfl rfl (by unfold In64; omega)) ?_
    refine seqQ rfl rfl (yAssign (v := .int _ _) rfl rfl) ?_
    refine seqNil ?_
    -- end loop
    refine loopEnd (i + 1) (by repeat (first | (with_reducible exact Agree.refl _ _) | refine Agree.upd ?_ rfl | refine Agree.over ?_ rfl)) (by omega) ⟨rfl, trivial⟩ ⟨hk, _, x2, (fold_take arriveF BH.data (clockF w) bs1 hk).trans (by rw [e1]), hm2, ?_, (arrive_offered _ _).trans ho1, Int.le_trans hl1 (arrive_last _ _), mp1.tr tt2, mp2.tr tt2, tt1.trans tt2⟩
    have := ht1.arrive (by omega) (show OutOk w1.offered bs1[i].data by rw [ho1]; exact (hd1 _ (List.getElem_mem hk)).1)
    rw [show bb + ((i + 1 : Nat) : Int) = bb + i + 1 by omega]
    exact this
  · skip
    obtain rfl : i = bs1.length := by omega
    rw [List.take_length, eb1] at e1
    refine wpExit ?_
    refine hF5 _ _ ?_; clear hF5
    refine wpSeq fun F10 hF10 => ?_
    refine wpSeq fun F11 hF11 => ?_
    refine wpRegion ?_
    refine seqQ rfl rfl (yAssign (v := .int _ _) rfl rfl) ?_
    refine seqNil ?_
    refine hF11 _ _ ?_; clear hF11
    -- loop
    refine wpBlock ?_
    refine wpLoopS [9, 59, 60, 61, 62, 63, 64, 65, 66, 67, 68, 69, 70] (fun i : Nat => [(9, .int .i64 i)]) (fun i H' => i ≤ bs2.length ∧ ∃ w' x', ((bs2.take i).map BH.data).foldl returnedF w1 = w' ∧ WM gw b w' x' H' ∧ TI aa (bb + bs1.length) w' ∧ w'.last = w1.last ∧ PM (wT gw w' x') H' V2 bs2 ∧ Tr (wT gw w x) H (wT gw w' x') H') (fun i => bs2.length - i) 0 ⟨rfl, trivial⟩ ⟨Nat.zero_le _, w1, x1, rfl, hm1, ht1, rfl, mp2, tt1⟩ ?_
    clear hm1 ht1 tt1 mp1 mp2 hk
    rintro j J2 Hl ⟨hk, w2, x2, e2, hm2, ht2, hl2, mp2, tt2⟩
    refine wpSeq fun F12 hF12 => ?_
    refine wpSeq fun F13 hF13 => ?_
    refine wpRegion ?_
    refine seqQ rfl rfl (yMove (v := .int _ _) rfl rfl) ?_
    refine seqQ rfl rfl (yMove (v := .slice _ _ _) rfl rfl) ?_
    refine seqQ rfl rfl (yLen rfl Try.underlying84 rfl) ?_
    refine seqQ rfl rfl (yLss rfl rfl rfl) ?_
    refine seqNil ?_
    refine hF13 _ _ ?_; clear hF13
    -- if t62
    refine wpIf rfl (fun hpos => ?_) (fun hpos => ?_)
    · skip
      have hk : j < bs2.length := by omega
      obtain ⟨p, ep, hp⟩ := bh_at mp2.rd.rd hk
      refine wpSkip ?_
      refine hF12 _ _ ?_; clear hF12
      refine wpSeq fun F14 hF14 => ?_
      refine wpBlock ?_
      refine wpRegion ?_
      refine seqQ rfl rfl (yMove (v := .pointer _) rfl rfl) ?_
      refine seqQ rfl rfl (yMove (v := .slice _ _ _) rfl rfl) ?_
      refine seqQ rfl rfl (yMove (v := .int _ _) rfl rfl) ?_
      refine seqQ rfl rfl (yIdxP1 rfl Try.underlying84 Try.sizeOf58 rfl rfl ep rfl hk) ?_
      refine seqQ rfl rfl (yLoad rfl Try.underlying58 rfl rfl hp) ?_
      -- e slot 70: call F43<(*farandole/farandolelaw50.world).returned> t65 t69
      refine seqE rfl rfl (stepCall rfl Try.call43 rfl ?_)
      refine (returned_c gw b w2 x2 aa (bb + bs1.length) bs2[j].data bs2[j].A bs2[j].cap Hl hm2 ht2 (mp2.data _ (List.getElem_mem hk)).rd (ff2 _ (List.getElem_mem hk)) (hd2 _ (List.getElem_mem hk)).2 (by rw [hl2]; exact (hd2 _ (List.getElem_mem hk)).1.mono hl1)).mono ?_
      rintro v Hn ⟨x3, hm3, tt3⟩
      refine seqNil ?_
      refine hF14 _ _ ?_; clear hF14
      refine wpRegion ?_
      refine seqQ rfl rfl (yMove (v := .int _ _) rfl rfl) ?_
      refine seqQ rfl rfl (yAdd rfl rfl rfl (by unfold In64; omega)) ?_
      refine seqQ rfl rfl (yAssign (v := .int _ _) rfl rfl) ?_
      refine seqNil ?_
      -- end loop
      exact loopEnd (j + 1) (by repeat (first | (with_reducible exact Agree.refl _ _) | refine Agree.upd ?_ rfl | refine Agree.over ?_ rfl)) (by omega) ⟨rfl, trivial⟩ ⟨hk, _, x3, (fold_take returnedF BH.data w1 bs2 hk).trans (by rw [e2]), hm3, ht2.returned (by rw [hl2]; exact (hd2 _ (List.getElem_mem hk)).1.mono hl1), (returned_last _ _).trans hl2, mp2.tr tt3, tt2.trans tt3⟩
    · skip
      obtain rfl : j = bs2.length := by omega
      rw [List.take_length, eb2, ← e1] at e2
      change midF w = w2 at e2
      subst e2
      clear mp2 ht2 hl2 hd1 hd2 ff1 ff2 eb1 eb2 e1 hk hpos
      have hx0 : (midF w).snd.pk.vals = [] ∧ (midF w).snd.pk.clk = [] := hm2.pv
      have hnm := hmid.now
      refine wpExit ?_
      refine hF10 _ _ ?_; clear hF10
      refine wpSeq fun F15 hF15 => ?_
      refine wpRegionD Try_mixed [.q, .q, .q, .q, .q, .q, .q, .q, .e, .q, .q, .q, .q, .n, .n, .e, .e, .q] 17 [0, 1, 3, 7, 0, 16, 48, 112, 255, 511, 1023, 1023, 1023, 0, 0, 26623, 61439, 131071] [] (by kernel_rfl) _ rfl [0, 1, 2, 3, 4, 5, 6, 7, 8, 9, 10, 11, 12, 13, 14, 15, 16] rfl (by simp) ?_
      refine lexQ rfl rfl rfl rfl (fun H hM => (yMove (v := .pointer _) rfl rfl)) ?_
      refine lexQ rfl rfl rfl rfl (fun H hM => (yNilCheck rfl rfl)) ?_
      refine lexQ rfl rfl rfl rfl (fun H hM => (yFieldAddr rfl Try.underlying67 rfl Try.sizeOf29 rfl rfl)) ?_
      refine lexQ rfl rfl rfl rfl (fun H hM => (yLoadC (cs := sdC (midF w).snd x2.A x2.ca x2.B x2.cb) rfl Try.underlying29 rfl Try.sizeOf29 rfl (fun j u hu => hM.ext.cell (hm2.blk.sub (off := 0) rfl j u hu)))) ?_
      refine lexQ rfl rfl rfl rfl (fun H hM => (yMove (v := .pointer _) rfl rfl)) ?_
      refine lexQ rfl rfl rfl rfl (fun H hM => (yNilCheck rfl rfl)) ?_
      refine lexQ rfl rfl rfl rfl (fun H hM => (yFieldAddr rfl Try.underlying67 rfl Try.sizeOf3 rfl rfl)) ?_
      refine lexQ rfl rfl rfl rfl (fun H hM => (yLoad rfl Try.underlying3 rfl rfl (hM.ext.cell (show cellH Hl ((⟨gw, 0, none⟩ : Addr).add 22) = some (.int .i64 (midF w).now) from hm2.blk.cell rfl)))) ?_
      -- e slot 80: call F11<farandole/transport.Resend> t75 t79
      refine lexX rfl rfl rfl rfl (by simp) (fun H80 hX80 hM80 hN80 => stepCall rfl Try.call11 rfl ?_)
      refine (resend_c (midF w).snd (midF w).now x2.A x2.B x2.ca x2.cb H80 (rd_nil hx0.1) (rd_nil hx0.2) (by rw [hx0.1]; simp) (by rw [hx0.2]; simp)).mono ?_
      rw [res_eq hmid]
      generalize hR : (if (midF w).snd.busy = true ∧ (midF w).snd.due ≤ (midF w).now then ({ (midF w).snd with tries := (midF w).snd.tries + 1, due := (midF w).now + min (ivl ((midF w).snd.tries + 1)) 64 }, (midF w).snd.pk, true) else ((midF w).snd, pk0, false) : Sd × Pk × Bool) = R
      obtain ⟨so, po, bo⟩ := R
      rintro v K2 ⟨vs, vp, rfl, ⟨As, cas, Bs, cbs, rfl, -, -⟩, ⟨Ap, cap, Bp, cbp, rfl, -, -⟩, hk2⟩
      dsimp only
      refine ⟨hk2, fun _ => ?_⟩
      refine lexQ rfl rfl rfl rfl (fun H hM => (yMove (v := .tuple _) rfl rfl)) ?_
      refine lexQ rfl rfl rfl rfl (fun H hM => (yExtract (v := .agg _) rfl rfl rfl)) ?_
      refine lexQ rfl rfl rfl rfl (fun H hM => (yExtract (v := .agg _) rfl rfl rfl)) ?_
      refine lexQ rfl rfl rfl rfl (fun H hM => (yExtract (v := .bool _) rfl rfl rfl)) ?_
      refine lexNB rfl rfl rfl rfl (nAlloc rfl Try.zeroValue29 rfl) (fun g10 hg10 hne10 => ?_)
      refine lexNB rfl rfl rfl rfl (nAlloc rfl Try.zeroValue27 rfl) (fun g11 hg11 hne11 => ?_)
      -- e slot None: store T29 t10 t81
      have n78 : g10 ≠ g11 := hne11 _ (.head _)
      refine lexES1 rfl rfl rfl rfl (by first | assumption | omega) (by first | (dsimp only; rfl) | kernel_rfl) n78 (by simp) (fun Hs hXs hMs hBs hFs => stepStoreB rfl (by kernel_rfl) rfl rfl rfl hBs rfl ?_)
      intro K3 hBa hKa
      have x1' := hXs
      refine ⟨hKa, by simp, ?_⟩
      -- e slot None: store T27 t11 t82
      refine lexES0 rfl rfl rfl rfl (by first | assumption | omega) (by first | (dsimp only; rfl) | kernel_rfl) (by simp) (fun Hs hXs hMs hBs hFs => stepStoreB rfl (by kernel_rfl) rfl rfl rfl hBs rfl ?_)
      intro K4 hBb hKb
      have x2' := hXs
      refine ⟨hKb, by
        intro b hb
        simp at hb
        subst hb
        have := hBa.lt
        have := x2'.size
        omega, ?_⟩
      -- tail
      refine lexNil (fun Hf hXf hMf hNf => ?_)
      have hT : Ext Hl Hf := (((((hX80.trans hk2).trans x1').mine hKa (by simp; omega)).trans x2').mine hKb (by simp; omega)).trans hXf
      have hB10 : Blk Hf g10 (sdC so As cas Bs cbs) 29 := ((hBa.ext x2').keep hKb (by simpa using n78)).ext hXf
      have hB11 : Blk Hf g11 (pkC po Ap cap Bp cbp) 27 := Blk.ext hBb hXf
      have hm3 := hm2.ext hT
      have hgl : gw < Hl.size := hm2.blk.lt
      have q11 : Hl.size ≤ g11 := by have := hX80.size; have := hk2.size; omega
      have hso : so.pk = (midF w).snd.pk := by split at hR <;> (obtain ⟨rfl, -⟩ := Prod.mk.inj hR; rfl)
      have hcs : (bo = true ∧ (midF w).snd.busy = true ∧ po = (midF w).snd.pk ∧ resF (midF w) = { midF w with snd := so, out := sendF (midF w).out po }) ∨ (bo = false ∧ resF (midF w) = { midF w with snd := so }) := by
        unfold resF
        by_cases hc : (midF w).snd.busy = true ∧ (midF w).snd.due ≤ (midF w).now
        · rw [if_pos hc] at hR ⊢
          obtain ⟨rfl, h2⟩ := Prod.mk.inj hR
          obtain ⟨rfl, rfl⟩ := Prod.mk.inj h2
          exact .inl ⟨rfl, hc.1, rfl, rfl⟩
        · rw [if_neg hc] at hR ⊢
          obtain ⟨rfl, h2⟩ := Prod.mk.inj hR
          obtain ⟨rfl, rfl⟩ := Prod.mk.inj h2
          exact .inr ⟨rfl, rfl⟩
      replace tt2 := tt2.trans (Tr.of_ext hT _)
      clear hT hKa hKb hXf hMf hNf hBa hBb hk2 hX80 hFs hXs hBs hR
      refine seqQ rfl rfl (yAssign (v := .bool _) rfl rfl) ?_
      refine seqNil ?_
      refine hF15 _ _ ?_; clear hF15
      refine wpSeq fun F16 hF16 => ?_
      refine wpRegion ?_
      refine seqQ rfl rfl (yMove (v := .pointer _) rfl rfl) ?_
      refine seqQ rfl rfl (yLoadB hB10 rfl Try.underlying29 rfl Try.sizeOf29 rfl) ?_
      refine seqQ rfl rfl (yNilCheck rfl rfl) ?_
      refine seqQ rfl rfl (yFieldAddr rfl Try.underlying67 rfl Try.sizeOf29 rfl rfl) ?_
      -- e slot None: store T29 t87 t85
      refine seqE0 rfl rfl (stepStoreSeg rfl (by kernel_rfl) rfl rfl rfl hm3.blk (Nat.le_of_ble_eq_true rfl) ?_)
      intro Hg hBg hKg
      obtain ⟨x4, hm4, tt4⟩ : ∃ x4, WM gw b { midF w with snd := so } x4 Hg ∧ Tr (wT gw (midF w) x2) Hf (wT gw { midF w with snd := so } x4) Hg := ⟨_, hm3.turnS hKg hBg (by rw [hso]; exact hx0)⟩
      replace hB11 := hB11.keep hKg (by simp; omega)
      replace tt4 := tt2.trans tt4
      clear hBg hKg hm3 hm2 hB10 tt2
      refine seqNil ?_
      refine hF16 _ _ ?_; clear hF16
      refine wpSeq fun F17 hF17 => ?_
      refine wpSeq fun F18 hF18 => ?_
      refine wpRegion ?_
      refine seqQ rfl rfl (yMove (v := .bool _) rfl rfl) ?_
      refine seqNil ?_
      refine hF18 _ _ ?_; clear hF18
      -- if t88
      refine cutF [89, 90, 91, 92, 93, 94, 95, 96, 97, 98] (fun _ : WX => []) (fun z H' => WM gw b (resF (midF w)) z H' ∧ Tr (wT gw w x) H (wT gw (resF (midF w)) z) H') hF17 ?_ (fun hC => ?_)
      · skip
        rintro x5 J3 Hh ⟨hm5, tt5⟩
        clear hm4 tt4 hB11 hcs
        rw [show tickF total w = offF total (resF (midF w)) from rfl]
        generalize resF (midF w) = w3 at hm5 tt5 hres hfin ⊢
        have hn3 := hres.now
        have ho3 := hres.off
        refine wpSeq fun F19 hF19 => ?_
        refine wpSeq fun F20 hF20 => ?_
        refine wpRegion ?_
        refine seqQ rfl rfl (yMove (v := .pointer _) rfl rfl) ?_
        refine seqQ rfl rfl (yNilCheck rfl rfl) ?_
        refine seqQ rfl rfl (yFieldAddr rfl Try.underlying67 rfl Try.sizeOf3 rfl rfl) ?_
        refine seqQ rfl rfl (yLoad rfl Try.underlying3 rfl rfl (show cellH Hh ((⟨gw, 0, none⟩ : Addr).add 23) = some (.int .i64 w3.offered) from hm5.blk.cell rfl)) ?_
        refine seqQ rfl rfl (yMove (v := .int _ _) rfl rfl) ?_
        refine seqQ rfl rfl (yLss rfl rfl rfl) ?_
        -- guard t105
        refine seqMeet 14 [105, 106, 107, 108, 109, 110, 111, 112] 112 (decide (w3.offered < total ∧ w3.snd.busy = false)) (fun hm21 => ?_) (fun J21 => ?_)
        · skip
          first | refine seqG rfl rfl rfl rfl (fun h105 => ?_) (fun h105 => ?_) | refine seqGB rfl rfl rfl rfl (fun h105 => ?_) (fun h105 => ?_)
          · skip
            refine seqQ rfl rfl (yMove (v := .pointer _) rfl rfl) ?_
            refine seqQ rfl rfl (yNilCheck rfl rfl) ?_
            refine seqQ rfl rfl (yFieldAddr rfl Try.underlying67 rfl Try.sizeOf29 rfl rfl) ?_
            refine seqQ rfl rfl (yFieldAddr rfl Try.underlying29 rfl Try.sizeOf4 rfl rfl) ?_
            refine seqQ rfl rfl (yLoad rfl Try.underlying4 rfl rfl (show cellH Hh (((⟨gw, 0, none⟩ : Addr).add 0).add 1) = some (.bool w3.snd.busy) from hm5.blk.cell2 rfl)) ?_
            refine seqQ rfl rfl (yNot rfl rfl) ?_
            refine seqQ rfl rfl (yPickT (v := .bool _) rfl rfl rfl) ?_
            exact hm21 _ (by repeat (first | (with_reducible exact Agree.refl _ _) | refine Agree.upd ?_ rfl | refine Agree.over ?_ rfl)) (by show Value.bool _ = Value.bool _; congr 1; grind)
          · skip
            refine seqU rfl rfl ?_
            refine seqU rfl rfl ?_
            refine seqU rfl rfl ?_
            refine seqU rfl rfl ?_
            refine seqU rfl rfl ?_
            refine seqU rfl rfl ?_
            refine seqQ rfl rfl (yPickF (v := .bool _) rfl rfl rfl) ?_
            exact hm21 _ (by repeat (first | (with_reducible exact Agree.refl _ _) | refine Agree.upd ?_ rfl | refine Agree.over ?_ rfl)) (by show Value.bool _ = Value.bool _; congr 1; grind)
        refine seqNil ?_
        refine hF20 _ _ ?_; clear hF20
        -- if t112
        refine cutF [13, 14, 15, 113, 114, 115, 116, 117, 118, 119, 120, 121, 122, 123, 124, 125, 126, 127, 128, 129, 130, 131, 132, 133, 134, 135, 136, 137, 138, 139, 140, 141, 142, 143, 144, 145, 146, 147, 148, 149, 150, 151, 152, 153, 154, 155, 156, 157, 158, 159, 160, 161, 162, 163] (fun _ : WX => []) (fun z H' => WM gw b (offF total w3) z H' ∧ Tr (wT gw w x) H (wT gw (offF total w3) z) H') hF19 ?_ (fun hC => ?_)
        · skip
          rintro x6 J4 Hi ⟨hm6, tt6⟩
          clear hm5 tt5
          have hsd := hfin.sdp
          refine wpRegion ?_
          refine seqQ rfl rfl (yMove (v := .pointer _) rfl rfl) ?_
          refine seqQ rfl rfl (yMove (v := .pointer _) rfl rfl) ?_
          refine seqQ rfl rfl (yNilCheck rfl rfl) ?_
          refine seqQ rfl rfl (yFieldAddr rfl Try.underlying67 rfl Try.sizeOf4 rfl rfl) ?_
          refine seqQ rfl rfl (yLoad rfl Try.underlying4 rfl rfl (show cellH Hi ((⟨gw, 0, none⟩ : Addr).add 26) = some (.bool false) from hm6.blk.cell rfl)) ?_
          refine seqQ rfl rfl (yMove (v := .bool false) rfl rfl) ?_
          refine seqQ rfl rfl (yMove (v := .pointer _) rfl rfl) ?_
          refine seqQ rfl rfl (yNilCheck rfl rfl) ?_
          refine seqQ rfl rfl (yFieldAddr rfl Try.underlying67 rfl Try.sizeOf29 rfl rfl) ?_
          refine seqQ rfl rfl (yLoadC (cs := sdC (offF total w3).snd x6.A x6.ca x6.B x6.cb) rfl Try.underlying29 rfl Try.sizeOf29 rfl (hm6.blk.sub (off := 0) rfl)) ?_
          -- e slot 174: call F21<farandole/transport.Valid> t173
          refine seqE rfl rfl (stepCall rfl Try.call21 rfl ?_)
          refine (sdValid_c (offF total w3).snd x6.A x6.B x6.ca x6.cb Hi (rd_nil hm6.pv.1) (rd_nil hm6.pv.2) (by rw [hm6.pv.1]; simp) (by rw [hm6.pv.2]; simp)).mono ?_
          rintro v Hj ⟨rfl, xj⟩
          rw [decide_eq_true hsd]
          refine seqQ rfl rfl (yNot rfl rfl) ?_
          refine seqQ rfl rfl (yPickF (v := .bool _) rfl rfl rfl) ?_
          refine seqQ rfl rfl (yNilCheck rfl rfl) ?_
          refine seqQ rfl rfl (yFieldAddr rfl Try.underlying67 rfl Try.sizeOf4 rfl rfl) ?_
          -- e slot None: store T4 t178 t176
          refine seqE0 rfl rfl (stepStoreSame (v := .bool false) rfl Try.sizeOf4 rfl rfl rfl rfl (hm6.ext xj).blk (j := 26) rfl ?_)
          refine fin0 rfl ?_
          exact ⟨x6, hm6.ext xj, tt6.trans (Tr.of_ext xj _)⟩
        · skip
          refine wpIf rfl (fun hc => ?_) (fun hc => ?_)
          · skip
            obtain ⟨hc1, hc2⟩ := hc
            have hidl := hres.idle hc2
            have hvo : ValidP (msgS (w3.offered + 1)) := msgS_valid (by omega)
            refine wpSeq fun F22 hF22 => ?_
            refine wpRegionD Try_mixed [.q, .q, .q, .q, .q, .q, .q, .q, .q, .e, .q, .q, .q, .q, .e, .q, .q, .q, .q, .n, .n, .e, .e, .q] 23 [0, 1, 3, 7, 0, 16, 48, 112, 240, 496, 0, 1024, 3072, 7168, 16383, 32767, 65535, 65535, 65535, 0, 0, 1703935, 3932159, 8388607] [] (by kernel_rfl) _ rfl [0, 1, 2, 3, 4, 5, 6, 7, 8, 9, 10, 11, 12, 13, 14, 15, 16, 17, 18, 19, 20, 21, 22] rfl (by simp) ?_
            refine lexQ rfl rfl rfl rfl (fun H hM => (yMove (v := .pointer _) rfl rfl)) ?_
            refine lexQ rfl rfl rfl rfl (fun H hM => (yNilCheck rfl rfl)) ?_
            refine lexQ rfl rfl rfl rfl (fun H hM => (yFieldAddr rfl Try.underlying67 rfl Try.sizeOf29 rfl rfl)) ?_
            refine lexQ rfl rfl rfl rfl (fun H hM => (yLoadC (cs := sdC w3.snd x5.A x5.ca x5.B x5.cb) rfl Try.underlying29 rfl Try.sizeOf29 rfl (fun j u hu => hM.ext.cell (hm5.blk.sub (off := 0) rfl j u hu)))) ?_
            refine lexQ rfl rfl rfl rfl (fun H hM => (yMove (v := .pointer _) rfl rfl)) ?_
            refine lexQ rfl rfl rfl rfl (fun H hM => (yNilCheck rfl rfl)) ?_
            refine lexQ rfl rfl rfl rfl (fun H hM => (yFieldAddr rfl Try.underlying67 rfl Try.sizeOf3 rfl rfl)) ?_
            refine lexQ rfl rfl rfl rfl (fun H hM => (yLoad rfl Try.underlying3 rfl rfl (hM.ext.cell (show cellH Hh ((⟨gw, 0, none⟩ : Addr).add 23) = some (.int .i64 w3.offered) from hm5.blk.cell rfl)))) ?_
            refine lexQ rfl rfl rfl rfl (fun H hM => (yRem rfl rfl rfl (by omega))) ?_
            -- e slot 123: call F10<farandole/farandolelaw50.message> t122
            refine lexX rfl rfl rfl rfl (by simp) (fun H123 hX123 hM123 hN123 => stepCall rfl Try.call10 rfl ?_)
            refine (message_c (w3.offered % 40) H123).mono ?_
            rintro v P1 ⟨rfl, xp1⟩
            refine ⟨xp1, fun _ => ?_⟩
            refine lexQ rfl rfl rfl rfl (fun H hM => (yMove (v := .pointer _) rfl rfl)) ?_
            refine lexQ rfl rfl rfl rfl (fun H hM => (yNilCheck rfl rfl)) ?_
            refine lexQ rfl rfl rfl rfl (fun H hM => (yFieldAddr rfl Try.underlying67 rfl Try.sizeOf3 rfl rfl)) ?_
            refine lexQ rfl rfl rfl rfl (fun H hM => (yLoad rfl Try.underlying3 rfl rfl (hM.ext.cell (show cellH Hh ((⟨gw, 0, none⟩ : Addr).add 22) = some (.int .i64 w3.now) from hm5.blk.cell rfl)))) ?_
            -- e slot 128: call F8<farandole/transport.Offer> t117 t123 t127
            refine lexX rfl rfl rfl rfl (by simp) (fun H128 hX128 hM128 hN128 => stepCall rfl Try.call8 rfl ?_)
            refine (offer_c w3.snd (msg (w3.offered % 40)) w3.now x5.A x5.B none none x5.ca x5.cb 0 0 H128 (rd_nil hm5.pv.1) (rd_nil hm5.pv.2) (rd_nil rfl) (rd_nil rfl) (by rw [hm5.pv.1]; simp) (by rw [hm5.pv.2]; simp) (by simp [msg]) (by simp [msg])).mono ?_
            rw [offer_eq hres hc2 (by omega)]
            rintro v P2 ⟨vs, vp, rfl, ⟨As, cas, Bs, cbs, rfl, -, -⟩, ⟨Ap, cap, Bp, cbp, rfl, -, -⟩, xp2⟩
            dsimp only
            refine ⟨xp2, fun _ => ?_⟩
            refine lexQ rfl rfl rfl rfl (fun H hM => (yMove (v := .tuple _) rfl rfl)) ?_
            refine lexQ rfl rfl rfl rfl (fun H hM => (yExtract (v := .agg _) rfl rfl rfl)) ?_
            refine lexQ rfl rfl rfl rfl (fun H hM => (yExtract (v := .agg _) rfl rfl rfl)) ?_
            refine lexQ rfl rfl rfl rfl (fun H hM => (yExtract (v := .int _ _) rfl rfl rfl)) ?_
            refine lexNB rfl rfl rfl rfl (nAlloc rfl Try.zeroValue29 rfl) (fun g13 hg13 hne13 => ?_)
            refine lexNB rfl rfl rfl rfl (nAlloc rfl Try.zeroValue27 rfl) (fun g14 hg14 hne14 => ?_)
            -- e slot None: store T29 t13 t129
            have n78 : g13 ≠ g14 := hne14 _ (.head _)
            refine lexES1 rfl rfl rfl rfl (by first | assumption | omega) (by first | (dsimp only; rfl) | kernel_rfl) n78 (by simp) (fun Hs hXs hMs hBs hFs => stepStoreB rfl (by kernel_rfl) rfl rfl rfl hBs rfl ?_)
            intro K3 hBa hKa
            have x1' := hXs
            refine ⟨hKa, by simp, ?_⟩
            -- e slot None: store T27 t14 t130
            refine lexES0 rfl rfl rfl rfl (by first | assumption | omega) (by first | (dsimp only; rfl) | kernel_rfl) (by simp) (fun Hs hXs hMs hBs hFs => stepStoreB rfl (by kernel_rfl) rfl rfl rfl hBs rfl ?_)
            intro K4 hBb hKb
            have x2' := hXs
            refine ⟨hKb, by
              intro b hb
              simp at hb
              subst hb
              have := hBa.lt
              have := x2'.size
              omega, ?_⟩
            -- tail
            refine lexNil (fun Hf hXf hMf hNf => ?_)
            have hT : Ext Hh Hf := (((((((hX123.trans xp1).trans hX128).trans xp2).trans x1').mine hKa (by simp; omega)).trans x2').mine hKb (by simp; omega)).trans hXf
            have hB13 : Blk Hf g13 (sdC ⟨w3.snd.next + 1, true, msgS (w3.offered + 1), w3.now + 8, 1⟩ As cas Bs cbs) 29 := ((hBa.ext x2').keep hKb (by simpa using n78)).ext hXf
            have hB14 : Blk Hf g14 (pkC (msgS (w3.offered + 1)) Ap cap Bp cbp) 27 := Blk.ext hBb hXf
            have hm6 := hm5.ext hT
            have hgl : gw < Hh.size := hm5.blk.lt
            have q14 : Hh.size ≤ g14 := by have := hX123.size; have := xp1.size; have := hX128.size; have := xp2.size; omega
            have q13 : Hh.size ≤ g13 := by have := hX123.size; have := xp1.size; have := hX128.size; have := xp2.size; omega
            replace tt5 := tt5.trans (Tr.of_ext hT _)
            clear hT hKa hKb hXf hMf hNf hBa hBb xp1 xp2 hX123 hX128 hFs hXs hBs
            refine seqQ rfl rfl (yAssign (v := .int _ _) rfl rfl) ?_
            refine seqNil ?_
            refine hF22 _ _ ?_; clear hF22
            refine wpSeq fun F23 hF23 => ?_
            refine wpRegion ?_
            refine seqQ rfl rfl (yMove (v := .pointer _) rfl rfl) ?_
            refine seqQ rfl rfl (yMove (v := .pointer _) rfl rfl) ?_
            refine seqQ rfl rfl (yNilCheck rfl rfl) ?_
            refine seqQ rfl rfl (yFieldAddr rfl Try.underlying67 rfl Try.sizeOf4 rfl rfl) ?_
            refine seqQ rfl rfl (yLoad rfl Try.underlying4 rfl rfl (show cellH Hf ((⟨gw, 0, none⟩ : Addr).add 26) = some (.bool false) from hm6.blk.cell rfl)) ?_
            refine seqQ rfl rfl (yMove (v := .bool false) rfl rfl) ?_
            refine seqQ rfl rfl (yMove (v := .int _ _) rfl rfl) ?_
            refine seqQ rfl rfl (yNeq rfl rfl rfl) ?_
            refine seqQ rfl rfl (yPickF (v := .bool _) rfl rfl rfl) ?_
            refine seqQ rfl rfl (yNilCheck rfl rfl) ?_
            refine seqQ rfl rfl (yFieldAddr rfl Try.underlying67 rfl Try.sizeOf4 rfl rfl) ?_
            -- e slot None: store T4 t142 t140
            rw [show (!decide ((0 : Int) = 0)) = false from rfl]
            refine seqE0 rfl rfl (stepStoreSame (v := .bool false) rfl Try.sizeOf4 rfl rfl rfl rfl hm6.blk (j := 26) rfl ?_)
            refine seqNil ?_
            refine hF23 _ _ ?_; clear hF23
            refine wpSeq fun F24 hF24 => ?_
            refine wpRegion ?_
            refine seqQ rfl rfl (yMove (v := .pointer _) rfl rfl) ?_
            refine seqQ rfl rfl (yLoadB hB13 rfl Try.underlying29 rfl Try.sizeOf29 rfl) ?_
            refine seqQ rfl rfl (yNilCheck rfl rfl) ?_
            refine seqQ rfl rfl (yFieldAddr rfl Try.underlying67 rfl Try.sizeOf29 rfl rfl) ?_
            -- e slot None: store T29 t146 t144
            refine seqE0 rfl rfl (stepStoreSeg rfl (by kernel_rfl) rfl rfl rfl hm6.blk (Nat.le_of_ble_eq_true rfl) ?_)
            intro Hg hBg hKg
            obtain ⟨x7, hm7, tt7⟩ : ∃ x', WM gw b { w3 with snd := ⟨w3.snd.next + 1, true, msgS (w3.offered + 1), w3.now + 8, 1⟩ } x' Hg ∧ Tr (wT gw w3 x5) Hf (wT gw { w3 with snd := ⟨w3.snd.next + 1, true, msgS (w3.offered + 1), w3.now + 8, 1⟩ } x') Hg := ⟨_, hm6.turnS hKg hBg ⟨rfl, rfl⟩⟩
            replace hB14 := hB14.keep hKg (by simp; omega)
            replace tt7 := tt5.trans tt7
            clear hBg hKg hm6 hm5 hB13 tt5
            refine seqNil ?_
            refine hF24 _ _ ?_; clear hF24
            refine wpSeq fun F25 hF25 => ?_
            refine wpRegionD Try_mixed [.q, .q, .q, .q, .q, .q, .q, .e, .q, .q, .e] 8 [0, 0, 0, 4, 12, 28, 0, 126, 255, 511, 1023] [] (by kernel_rfl) _ rfl [0, 1, 2, 3, 4, 5, 6, 7] rfl (by simp) ?_
            refine lexQ rfl rfl rfl rfl (fun H hM => (yMove (v := .pointer _) rfl rfl)) ?_
            refine lexQ rfl rfl rfl rfl (fun H hM => (yMove (v := .pointer _) rfl rfl)) ?_
            refine lexQ rfl rfl rfl rfl (fun H hM => (yMove (v := .pointer _) rfl rfl)) ?_
            refine lexQ rfl rfl rfl rfl (fun H hM => (yNilCheck rfl rfl)) ?_
            refine lexQ rfl rfl rfl rfl (fun H hM => (yFieldAddr rfl Try.underlying67 rfl Try.sizeOf65 rfl rfl)) ?_
            refine lexQ rfl rfl rfl rfl (fun H hM => (yLoadC (cs := lkC x7.lo) rfl Try.underlying65 rfl Try.sizeOf65 rfl (fun j u hu => hM.ext.cell (hm7.blk.sub (off := 14) rfl j u hu)))) ?_
            refine lexQ rfl rfl rfl rfl (fun H hM => (yLoadB (hB14.ext hM.ext) rfl Try.underlying27 rfl Try.sizeOf27 rfl)) ?_
            -- e slot 154: call F44<(*farandole/farandolelaw50.world).transmit> t148 t152 t153
            refine lexX0 rfl rfl rfl rfl rfl (by simp) (fun hM154 => stepCall rfl Try.call44 rfl ?_)
            refine (transmit_c gw _ x7.lo (msgS (w3.offered + 1)) Ap Bp cap cbp Hg hm7.blk rfl hm7.mo.rd hm7.so (by rw [hm7.lout]; exact hres.vout) (by rw [hm7.lout]; have := hres.sout; show w3.out.sent < _; omega) hvo rfl rfl).mono ?_
            rintro v Hr ⟨L', rfl, eL, sL, nL, xr⟩
            refine ⟨xr, fun _ => ?_⟩
            have hmr := hm7.ext xr
            -- tail
            refine lexNil0 rfl (fun hM => ?_)
            refine seqQ rfl rfl (yNilCheck rfl rfl) ?_
            refine seqQ rfl rfl (yFieldAddr rfl Try.underlying67 rfl Try.sizeOf65 rfl rfl) ?_
            -- e slot None: store T65 t156 t154
            refine seqE0 rfl rfl (stepStoreSeg rfl (by kernel_rfl) rfl rfl rfl hmr.blk (Nat.le_of_ble_eq_true rfl) ?_)
            intro Hs hBs hKs
            obtain ⟨x8, hms, tts⟩ : ∃ x', WM gw b { w3 with snd := ⟨w3.snd.next + 1, true, msgS (w3.offered + 1), w3.now + 8, 1⟩, out := sendF w3.out (msgS (w3.offered + 1)) } x' Hs ∧ Tr (wT gw _ x7) Hr (wT gw { w3 with snd := ⟨w3.snd.next + 1, true, msgS (w3.offered + 1), w3.now + 8, 1⟩, out := sendF w3.out (msgS (w3.offered + 1)) } x') Hs := ⟨_, hmr.outL (L := L') (l := sendF w3.out (msgS (w3.offered + 1))) (nL.m (fun y hy => (hm7.lt y hy).2)) sL (eL.trans (by rw [hm7.lout])) hKs hBs⟩
            replace tts := (tt7.trans (Tr.of_ext xr _)).trans tts
            clear hBs hKs hmr hm7 tt7
            refine seqNil ?_
            refine hF25 _ _ ?_; clear hF25
            refine wpRegion ?_
            refine seqQ rfl rfl (yMove (v := .pointer _) rfl rfl) ?_
            refine seqQ rfl rfl (yNilCheck rfl rfl) ?_
            refine seqQ rfl rfl (yFieldAddr rfl Try.underlying67 rfl Try.sizeOf3 rfl rfl) ?_
            refine seqQ rfl rfl (yLoad rfl Try.underlying3 rfl rfl (show cellH Hs ((⟨gw, 0, none⟩ : Addr).add 23) = some (.int .i64 w3.offered) from hms.blk.cell rfl)) ?_
            refine seqQ rfl rfl (yAdd rfl rfl rfl (by unfold In64; omega)) ?_
            refine seqQ rfl rfl (yNilCheck rfl rfl) ?_
            refine seqQ rfl rfl (yFieldAddr rfl Try.underlying67 rfl Try.sizeOf3 rfl rfl) ?_
            -- e slot None: store T3 t163 t161
            refine seqE0 rfl rfl (stepStore rfl Try.sizeOf3 rfl rfl rfl rfl hms.blk (Nat.le_of_ble_eq_true rfl) ?_)
            intro Ht hBt hKt
            obtain ⟨hmt, ttt⟩ := hms.turn (w' := { w3 with snd := ⟨w3.snd.next + 1, true, msgS (w3.offered + 1), w3.now + 8, 1⟩, out := sendF w3.out (msgS (w3.offered + 1)), offered := w3.offered + 1 }) hKt hBt rfl rfl rfl hms.pv
            have hF : offF total w3 = { w3 with snd := ⟨w3.snd.next + 1, true, msgS (w3.offered + 1), w3.now + 8, 1⟩, out := sendF w3.out (msgS (w3.offered + 1)), offered := w3.offered + 1 } := if_pos ⟨hc1, hc2⟩
            refine seqNil ?_
            -- end cut
            exact hC x8 _ _ (by repeat (first | (with_reducible exact Agree.refl _ _) | refine Agree.upd ?_ rfl | refine Agree.over ?_ rfl)) trivial ⟨by rw [hF]; exact hmt, by rw [hF]; exact tts.trans ttt⟩
          · skip
            refine wpSkip ?_
            -- end cut
            exact hC x5 _ _ (by repeat (first | (with_reducible exact Agree.refl _ _) | refine Agree.upd ?_ rfl | refine Agree.over ?_ rfl)) trivial ⟨by rw [show offF total w3 = w3 from if_neg hc]; exact hm5, by rw [show offF total w3 = w3 from if_neg hc]; exact tt5⟩
      · skip
        rcases hcs with ⟨rfl, hbz, hpo, hF⟩ | ⟨rfl, hF⟩
        · skip
          refine wpT rfl ?_
          refine wpRegionD Try_mixed [.q, .q, .q, .q, .q, .q, .q, .e, .q, .q, .e] 8 [0, 0, 0, 4, 12, 28, 0, 126, 255, 511, 1023] [] (by kernel_rfl) _ rfl [0, 1, 2, 3, 4, 5, 6, 7] rfl (by simp) ?_
          refine lexQ rfl rfl rfl rfl (fun H hM => (yMove (v := .pointer _) rfl rfl)) ?_
          refine lexQ rfl rfl rfl rfl (fun H hM => (yMove (v := .pointer _) rfl rfl)) ?_
          refine lexQ rfl rfl rfl rfl (fun H hM => (yMove (v := .pointer _) rfl rfl)) ?_
          refine lexQ rfl rfl rfl rfl (fun H hM => (yNilCheck rfl rfl)) ?_
          refine lexQ rfl rfl rfl rfl (fun H hM => (yFieldAddr rfl Try.underlying67 rfl Try.sizeOf65 rfl rfl)) ?_
          refine lexQ rfl rfl rfl rfl (fun H hM => (yLoadC (cs := lkC x4.lo) rfl Try.underlying65 rfl Try.sizeOf65 rfl (fun j u hu => hM.ext.cell (hm4.blk.sub (off := 14) rfl j u hu)))) ?_
          refine lexQ rfl rfl rfl rfl (fun H hM => (yLoadB (hB11.ext hM.ext) rfl Try.underlying27 rfl Try.sizeOf27 rfl)) ?_
          -- e slot 96: call F44<(*farandole/farandolelaw50.world).transmit> t90 t94 t95
          refine lexX0 rfl rfl rfl rfl rfl (by simp) (fun hM96 => stepCall rfl Try.call44 rfl ?_)
          refine (transmit_c gw _ x4.lo po Ap Bp cap cbp Hg hm4.blk rfl hm4.mo.rd hm4.so (by rw [hm4.lout]; exact hmid.vout) (by rw [hm4.lout]; have := hmid.sout; show (midF w).out.sent < _; omega) (by rw [hpo, (hmid.busy hbz).1]; have := hmid.off; have := (hmid.busy hbz).2.2.2.1; exact msgS_valid (by omega)) (by rw [hpo]; exact hx0.1) (by rw [hpo]; exact hx0.2)).mono ?_
          rintro v Hr ⟨L', rfl, eL, sL, nL, xr⟩
          refine ⟨xr, fun _ => ?_⟩
          have hmr := hm4.ext xr
          -- tail
          refine lexNil0 rfl (fun hM => ?_)
          refine seqQ rfl rfl (yNilCheck rfl rfl) ?_
          refine seqQ rfl rfl (yFieldAddr rfl Try.underlying67 rfl Try.sizeOf65 rfl rfl) ?_
          -- e slot None: store T65 t98 t96
          refine seqE0 rfl rfl (stepStoreSeg rfl (by kernel_rfl) rfl rfl rfl hmr.blk (Nat.le_of_ble_eq_true rfl) ?_)
          intro Hs hBs hKs
          obtain ⟨hms, tts⟩ := hmr.outL (L := L') (l := sendF (midF w).out po) (nL.m (fun y hy => (hm4.lt y hy).2)) sL (eL.trans (by rw [hm4.lout])) hKs hBs
          refine seqNil ?_
          -- end cut
          exact hC _ _ _ (by repeat (first | (with_reducible exact Agree.refl _ _) | refine Agree.upd ?_ rfl | refine Agree.over ?_ rfl)) trivial ⟨by rw [hF]; exact hms, by rw [hF]; exact (tt4.trans (Tr.of_ext xr _)).trans tts⟩
        · skip
          refine wpF rfl ?_
          refine wpSkip ?_
          -- end cut
          exact hC x4 _ _ (by repeat (first | (with_reducible exact Agree.refl _ _) | refine Agree.upd ?_ rfl | refine Agree.over ?_ rfl)) trivial ⟨by rw [hF]; exact hm4, by rw [hF]; exact tt4⟩
end Go.Proofs.Ytcfnmklbkhibgaa
