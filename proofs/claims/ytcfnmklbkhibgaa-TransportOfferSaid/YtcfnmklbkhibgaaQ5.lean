/- The walk over TransportOffer. -/
import Derived.Test.YtcfnmklbkhibgaaQ4
import Derived.Test.YtcfnmklbkhibgaaR4
namespace Go.Proofs.Ytcfnmklbkhibgaa
open Go.RowKit

set_option maxRecDepth 100000 in
theorem offer_valid (s : Sd) (p : Pk) (now : Int) (h : (offerF s p now).1 = 0) : SdP (offerF s p now).2.1 := by
  unfold offerF at h ⊢
  split at h
  · cases h
  · rename_i h1
    rw [if_neg h1]
    split at h
    · cases h
    · rename_i h2
      rw [if_neg h2]
      split at h
      · cases h
      · rename_i h3
        rw [if_neg h3]
        split at h
        · cases h
        · rename_i h4
          rw [if_neg h4]
          simp only [not_or, Decidable.not_not] at h1 h4
          have hs := h1.1
          have ht := h1.2
          unfold SdP at hs ⊢
          unfold TimeP at ht
          refine ⟨by show 1 ≤ s.next + 1; omega, by show s.next + 1 ≤ _; omega, ?_⟩
          rw [if_pos rfl]
          exact ⟨h4.1, h4.2, by show s.next = s.next + 1 - 1; omega, by show 0 ≤ now + 8; omega, by show now + 8 ≤ _; omega, by show (1 : Int) ≤ 1; omega, by show (1 : Int) ≤ 1099511627776; omega⟩
set_option maxRecDepth 100000 in
theorem acked_valid (s : Sd) (n : Int) (h : (ackedF s n).1 = 0) : SdP (ackedF s n).2 := by
  unfold ackedF at h ⊢
  split at h
  · cases h
  · rename_i h1
    rw [if_neg h1]
    split at h
    · cases h
    · rename_i h2
      rw [if_neg h2]
      simp only [Decidable.not_not] at h1
      unfold SdP at h1 ⊢
      refine ⟨h1.1, h1.2.1, ?_⟩
      rw [if_neg (by simp [sd0])]
      exact ⟨rfl, rfl, rfl⟩
set_option maxRecDepth 100000 in
theorem few_len {p : Pk} (h : FewP p) : p.vals.length ≤ 1000000000 ∧ p.clk.length ≤ 1000000000 := by unfold FewP at h; omega
set_option maxRecDepth 100000 in
theorem offer_len (s : Sd) (p : Pk) (now : Int) (hp : FewP p) : (offerF s p now).2.1.pk.vals.length ≤ 10 ∧ (offerF s p now).2.1.pk.clk.length ≤ 10 ∧ (offerF s p now).2.2.vals.length ≤ 10 ∧ (offerF s p now).2.2.clk.length ≤ 10 := by
  unfold FewP at hp
  unfold offerF
  (repeat' split) <;> simp [sd0, pk0, hp]
set_option maxRecDepth 100000 in
theorem acked_pk (s : Sd) (n : Int) : (ackedF s n).2.pk = pk0 := by
  unfold ackedF
  (repeat' split) <;> rfl

set_option maxHeartbeats 2000000 in
set_option maxRecDepth 100000 in
theorem tOffer_walk (s : Sd) (p : Pk) (n0 n1 : Int) (A B C D : Option Addr) (ca cb cc cd : Nat) (H : Heap) (hA : Rd eVal H A s.pk.vals) (hB : Rd eInt H B s.pk.clk) (hC : Rd eVal H C p.vals) (hD : Rd eInt H D p.clk)
    (h1 : s.pk.vals.length ≤ 9223372036854775807) (h2 : p.vals.length ≤ 9223372036854775807) :
    CallsH Try.prog 4 [.agg (sdC s A ca B cb).toArray, .agg (pkC p C cc D cd).toArray, .agg [.int .i64 n0, .int .i64 n1].toArray] H fun v H' => v = .bool true ∧ Ext H H' := by
  refine callsH_of Try.func4 rfl Try.ntmps4 (Nat.le_of_ble_eq_true rfl) ?_
  refine wpSeq fun F1 hF1 => ?_
  refine wpRegion ?_
  refine seqN rfl rfl (nBoxA rfl rfl) (fun g3 H3 hx3 hB3 hg3 hl3 => ?_)
  refine seqN rfl rfl (nBoxA rfl rfl) (fun g4 H4 hx4 hB4 hg4 hl4 => ?_)
  refine seqN rfl rfl (nBoxA rfl rfl) (fun g5 H5 hx5 hB5 hg5 hl5 => ?_)
  refine seqQ rfl rfl (yAssign (v := .bool _) rfl rfl) ?_
  refine seqNil ?_
  refine hF1 _ _ ?_; clear hF1
  refine wpSeq fun F2 hF2 => ?_
  refine wpSeq fun F3 hF3 => ?_
  refine wpRegion ?_
  -- e slot 17: call F7<farandole/farandolelaw50.awake> 
  refine seqE rfl rfl (stepCall rfl Try.call7 rfl ?_)
  refine (awake_c _).mono ?_
  rintro v H6 ⟨rfl, hx6⟩
  have hE := ((hx3.trans hx4).trans hx5).trans hx6
  have s0 := hE.size
  replace hB3 := ((hB3.ext hx4).ext hx5).ext hx6
  replace hB4 := (hB4.ext hx5).ext hx6
  replace hB5 := hB5.ext hx6
  clear hx3 hx4 hx5 hx6
  refine seqQ rfl rfl (yNot rfl rfl) ?_
  refine seqNil ?_
  refine hF3 _ _ ?_; clear hF3
  -- if t18
  refine wpF rfl ?_
  refine wpSkip ?_
  refine hF2 _ _ ?_; clear hF2
  refine wpSeq fun F4 hF4 => ?_
  refine wpSeq fun F5 hF5 => ?_
  refine wpRegion ?_
  refine seqQ rfl rfl (yLoadB hB3 rfl Try.underlying41 rfl Try.sizeOf41 rfl) ?_
  refine seqQ rfl rfl (yLoadB hB4 rfl Try.underlying39 rfl Try.sizeOf39 rfl) ?_
  -- e slot 21: call F13<farandole/farandolelaw50.few> t19 t20
  refine seqE rfl rfl (stepCall rfl Try.call13 rfl ?_)
  refine (fewBoth_c s p A B C D ca cb cc cd _ (hA.ext hE) (hC.ext hE) h1 h2).mono ?_
  rintro v H7 ⟨rfl, hx7⟩
  replace hE := hE.trans hx7
  replace hB3 := hB3.ext hx7
  replace hB4 := hB4.ext hx7
  replace hB5 := hB5.ext hx7
  clear hx7
  refine seqQ rfl rfl (yNot rfl rfl) ?_
  refine seqNil ?_
  refine hF5 _ _ ?_; clear hF5
  -- if t22
  refine wpCond rfl (fun hf => ?_) (fun hf => ?_)
  · skip
    refine wpSeq fun F6 hF6 => ?_
    refine wpRegion ?_
    refine seqQ rfl rfl (yAssign (v := .bool _) rfl rfl) ?_
    refine seqNil ?_
    refine hF6 _ _ ?_; clear hF6
    -- ret
    refine wpRet (fin1 (v := .bool _) rfl rfl ?_)
    exact ⟨rfl, hE⟩
  · skip
    have hf : FewP s.pk ∧ FewP p := by simpa using hf
    have l1 := few_len hf.1
    have l2 := few_len hf.2
    have lo := offer_len s p n0 hf.2
    have vo := offer_valid s p n0
    have va := acked_valid s n1
    have pa := acked_pk s n1
    refine wpSkip ?_
    refine hF4 _ _ ?_; clear hF4
    refine wpSeq fun F7 hF7 => ?_
    refine wpRegionD Try_mixed [.q, .e, .q, .q, .q, .e, .q, .q, .q, .q, .n, .n, .e, .e, .q] 14 [0, 1, 0, 0, 8, 31, 63, 127, 127, 127, 0, 0, 3327, 7679, 16383] [] (by kernel_rfl) _ rfl [0, 1, 2, 3, 4, 5, 6, 7, 8, 9, 10, 11, 12, 13] rfl (by simp) ?_
    refine lexQ rfl rfl rfl rfl (fun H hM => (yLoadB (hB3.ext hM.ext) rfl Try.underlying41 rfl Try.sizeOf41 rfl)) ?_
    -- e slot 25: call F14<farandole/farandolelaw50.To> t24
    refine lexX rfl rfl rfl rfl (by simp) (fun H25 hX25 hM25 hN25 => stepCall rfl Try.call14 rfl ?_)
    refine (to_c s A B ca cb _).mono ?_
    rintro v K1 ⟨rfl, hk1⟩
    refine ⟨hk1, fun _ => ?_⟩
    refine lexQ rfl rfl rfl rfl (fun H hM => (yLoadB (hB4.ext hM.ext) rfl Try.underlying39 rfl Try.sizeOf39 rfl)) ?_
    refine lexQ rfl rfl rfl rfl (fun H hM => (yIdxA1 rfl Try.underlying42 Try.sizeOf3 rfl rfl rfl (by decide))) ?_
    refine lexQ rfl rfl rfl rfl (fun H hM => (yLoad rfl Try.underlying3 rfl rfl (hM.ext.cell (hB5.cell (j := 0) rfl)))) ?_
    -- e slot 29: call F8<farandole/transport.Offer> t25 t26 t28
    refine lexE rfl rfl rfl rfl (fun H29 hX29 hM29 hN29 => stepCall rfl Try.call8 rfl ?_)
    have e29 := ((hE.trans hX25).trans hk1).trans hX29
    refine (offer_c s p n0 A B C D ca cb cc cd _ (hA.ext e29) (hB.ext e29) (hC.ext e29) (hD.ext e29) l1.1 l1.2 l2.1 l2.2).mono ?_
    generalize hO : offerF s p n0 = O at lo vo ⊢
    obtain ⟨eo, so, po⟩ := O
    rintro v K2 ⟨vs, vp, rfl, ⟨As, cas, Bs, cbs, rfl, ms1, ms2⟩, ⟨Ap, cap, Bp, cbp, rfl, mp1, mp2⟩, hk2⟩
    dsimp only at lo vo ms1 ms2 mp1 mp2 ⊢
    obtain ⟨F1, hF1, m1⟩ := ms1.fresh
    obtain ⟨F2, hF2, m2⟩ := ms2.fresh
    obtain ⟨F3, hF3, m3⟩ := mp1.fresh
    obtain ⟨F4, hF4, m4⟩ := mp2.fresh
    have hlF : ∀ b ∈ F1 ++ (F2 ++ (F3 ++ F4)), b < K2.size := fun b hb => by
      simp only [List.mem_append] at hb
      rcases hb with hb | hb | hb | hb
      · exact (hF1 b hb).2
      · exact (hF2 b hb).2
      · exact (hF3 b hb).2
      · exact (hF4 b hb).2
    refine lexFr (F := F1 ++ (F2 ++ (F3 ++ F4))) hk2 (fun b hb => by
      simp only [List.mem_append] at hb
      rcases hb with hb | hb | hb | hb
      · exact hF1 b hb
      · exact hF2 b hb
      · exact hF3 b hb
      · exact hF4 b hb) (by simp) ?_
    refine lexQ rfl rfl rfl rfl (fun H hM => (yMove (v := .tuple _) rfl rfl)) ?_
    refine lexQ rfl rfl rfl rfl (fun H hM => (yExtract (v := .agg _) rfl rfl rfl)) ?_
    refine lexQ rfl rfl rfl rfl (fun H hM => (yExtract (v := .agg _) rfl rfl rfl)) ?_
    refine lexQ rfl rfl rfl rfl (fun H hM => (yExtract (v := .int _ _) rfl rfl rfl)) ?_
    refine lexNB rfl rfl rfl rfl (nAlloc rfl Try.zeroValue29 rfl) (fun g7 hg7 hne7 => ?_)
    refine lexNB rfl rfl rfl rfl (nAlloc rfl Try.zeroValue27 rfl) (fun g8 hg8 hne8 => ?_)
    -- e slot None: store T29 t7 t30
    have n78 : g7 ≠ g8 := hne8 _ (.head _)
    refine lexES1 rfl rfl rfl rfl (by first | assumption | omega) (by first | (dsimp only; rfl) | kernel_rfl) n78 (by simp) (fun Hs hXs hMs hBs hFs => stepStoreB rfl (by kernel_rfl) rfl rfl rfl hBs rfl ?_)
    intro Ha hBa hKa
    have n7 : g7 ∉ F1 ++ (F2 ++ (F3 ++ F4)) ++ [] := hFs
    have x1 := hXs
    refine ⟨hKa, by simp only [List.append_nil]; exact fun b hb => Nat.lt_of_lt_of_le (hlF b hb) x1.size, ?_⟩
    have hl7 := hBa.lt
    -- e slot None: store T27 t8 t31
    refine lexES0 rfl rfl rfl rfl (by first | assumption | omega) (by first | (dsimp only; rfl) | kernel_rfl) (by simp) (fun Hs hXs hMs hBs hFs => stepStoreB rfl (by kernel_rfl) rfl rfl rfl hBs rfl ?_)
    intro Hb hBb hKb
    have n8 : g8 ∉ g7 :: (F1 ++ (F2 ++ (F3 ++ F4)) ++ []) := hFs
    have x2 := hXs
    have sz1 := x1.size
    have sz2 := x2.size
    have sza := hKa.size
    refine ⟨hKb, by
      intro b hb
      rcases List.mem_cons.1 hb with rfl | hb
      · omega
      · rw [List.append_nil] at hb
        have := hlF b hb
        omega, ?_⟩
    -- tail
    refine lexNil (fun Hf hXf hMf hNf => ?_)
    simp only [List.append_nil, List.mem_append, not_or, List.mem_cons] at n7 n8
    have hT : Ext H7 Hf := ((((((((hX25.trans hk1).trans hX29).trans hk2).trans x1).mine hKa (by simp; omega)).trans x2).mine hKb (by simp; omega)).trans hXf)
    have a1 := (((((m1 [g7, g8] (by simp [n7, n8])).tr (Tr.of_ext x1 _)).tr (Tr.store hKa (by simp))).tr (Tr.of_ext x2 _)).tr (Tr.store hKb (by simp))).rd.ext hXf
    have a2 := (((((m2 [g7, g8] (by simp [n7, n8])).tr (Tr.of_ext x1 _)).tr (Tr.store hKa (by simp))).tr (Tr.of_ext x2 _)).tr (Tr.store hKb (by simp))).rd.ext hXf
    have a3 := (((((m3 [g7, g8] (by simp [n7, n8])).tr (Tr.of_ext x1 _)).tr (Tr.store hKa (by simp))).tr (Tr.of_ext x2 _)).tr (Tr.store hKb (by simp))).rd.ext hXf
    have a4 := (((((m4 [g7, g8] (by simp [n7, n8])).tr (Tr.of_ext x1 _)).tr (Tr.store hKa (by simp))).tr (Tr.of_ext x2 _)).tr (Tr.store hKb (by simp))).rd.ext hXf
    have hB7 : Blk Hf g7 (sdC so As cas Bs cbs) 29 := ((hBa.ext x2).keep hKb (by simpa using n78)).ext hXf
    have hB8 : Blk Hf g8 (pkC po Ap cap Bp cbp) 27 := Blk.ext hBb hXf
    replace hE := hE.trans hT
    replace hB3 := hB3.ext hT
    replace hB4 := hB4.ext hT
    replace hB5 := hB5.ext hT
    clear hT hKa hKb hXf hMf hNf hBa hBb n7 n8 n78 m1 m2 m3 m4 ms1 ms2 mp1 mp2 hF1 hF2 hF3 hF4 hk1 hk2 hX25 hX29 e29 x1 x2 hlF
    refine seqQ rfl rfl (yAssign (v := .int _ _) rfl rfl) ?_
    refine seqNil ?_
    refine hF7 _ _ ?_; clear hF7
    refine wpSeq fun F8 hF8 => ?_
    refine wpRegion ?_
    refine seqQ rfl rfl (yLoadB hB3 rfl Try.underlying41 rfl Try.sizeOf41 rfl) ?_
    refine seqQ rfl rfl (yLoadB hB4 rfl Try.underlying39 rfl Try.sizeOf39 rfl) ?_
    refine seqQ rfl rfl (yIdxA1 rfl Try.underlying42 Try.sizeOf3 rfl rfl rfl (by decide)) ?_
    refine seqQ rfl rfl (yLoad rfl Try.underlying3 rfl rfl (hB5.cell (j := 0) rfl)) ?_
    -- e slot 38: call F15<farandole/farandoleref50.Offer> t34 t35 t37
    refine seqE rfl rfl (stepCall rfl Try.call15 rfl ?_)
    refine (rOffer_c s p n0 A B C D ca cb cc cd _ (hA.ext hE) (hB.ext hE) (hC.ext hE) (hD.ext hE) l1.1 l1.2).mono ?_
    rw [hO]
    rintro v K3 ⟨vs, vp, rfl, ⟨A1, ca1, B1, cb1, rfl, b1, b2⟩, ⟨A2, ca2, B2, cb2, rfl, b3, b4⟩, hk3⟩
    dsimp only at b1 b2 b3 b4 ⊢
    refine seqQ rfl rfl (yMove (v := .tuple _) rfl rfl) ?_
    refine seqQ rfl rfl (yExtract (v := .agg _) rfl rfl rfl) ?_
    refine seqQ rfl rfl (yExtract (v := .agg _) rfl rfl rfl) ?_
    refine seqQ rfl rfl (yExtract (v := .int _ _) rfl rfl rfl) ?_
    refine seqN rfl rfl (nAlloc rfl Try.zeroValue41 rfl) (fun g10 H10 hx10 hB10 hg10 hl10 => ?_)
    refine seqN rfl rfl (nAlloc rfl Try.zeroValue39 rfl) (fun g11 H11 hx11 hB11 hg11 hl11 => ?_)
    -- e slot None: store T41 t10 t39
    have t1 := hk3.size
    have t10 := hx10.size
    have t11 := hx11.size
    refine seqE0 rfl rfl (stepStoreB rfl (by kernel_rfl) rfl rfl rfl (hB10.ext hx11) rfl ?_)
    intro Ha hBa hKa
    -- e slot None: store T39 t11 t40
    refine seqE0 rfl rfl (stepStoreB rfl (by kernel_rfl) rfl rfl rfl (hB11.keep hKa (by simp; omega)) rfl ?_)
    intro Hc hBb hKb
    have hT : Ext Hf Hc := ((((hk3.trans hx10).trans hx11).mine hKa (by simp; omega)).mine hKb (by simp; omega))
    replace b1 := (((RdM.old b1 (hx10.trans hx11) (M := [g10, g11]) (by simp; omega)).tr (Tr.store hKa (by simp))).tr (Tr.store hKb (by simp))).rd
    replace b2 := (((RdM.old b2 (hx10.trans hx11) (M := [g10, g11]) (by simp; omega)).tr (Tr.store hKa (by simp))).tr (Tr.store hKb (by simp))).rd
    replace b3 := (((RdM.old b3 (hx10.trans hx11) (M := [g10, g11]) (by simp; omega)).tr (Tr.store hKa (by simp))).tr (Tr.store hKb (by simp))).rd
    replace b4 := (((RdM.old b4 (hx10.trans hx11) (M := [g10, g11]) (by simp; omega)).tr (Tr.store hKa (by simp))).tr (Tr.store hKb (by simp))).rd
    replace hB10 : Blk Hc g10 (sdC so A1 ca1 B1 cb1) 41 := hBa.keep hKb (by simp; omega)
    replace hB11 : Blk Hc g11 (pkC po A2 ca2 B2 cb2) 39 := hBb
    replace hE := hE.trans hT
    replace hB3 := hB3.ext hT
    replace hB5 := hB5.ext hT
    replace hB7 := hB7.ext hT
    replace hB8 := hB8.ext hT
    replace a1 := a1.ext hT
    replace a2 := a2.ext hT
    replace a3 := a3.ext hT
    replace a4 := a4.ext hT
    clear hT hKa hKb hBa hBb hx10 hx11 hk3 hB4 t1 t10 t11
    refine seqQ rfl rfl (yAssign (v := .int _ _) rfl rfl) ?_
    refine seqNil ?_
    refine hF8 _ _ ?_; clear hF8
    refine wpSeq fun F9 hF9 => ?_
    refine wpRegionD Try_mixed [.q, .e, .q, .q, .e, .q, .q, .q, .n, .e, .q] 10 [0, 1, 0, 4, 15, 31, 63, 63, 0, 383, 1023] [] (by kernel_rfl) _ rfl [0, 1, 2, 3, 4, 5, 6, 7, 8, 9] rfl (by simp) ?_
    refine lexQ rfl rfl rfl rfl (fun H hM => (yLoadB (hB3.ext hM.ext) rfl Try.underlying41 rfl Try.sizeOf41 rfl)) ?_
    -- e slot 44: call F14<farandole/farandolelaw50.To> t43
    refine lexX rfl rfl rfl rfl (by simp) (fun H44 hX44 hM44 hN44 => stepCall rfl Try.call14 rfl ?_)
    refine (to_c s A B ca cb _).mono ?_
    rintro v K4 ⟨rfl, hk4⟩
    refine ⟨hk4, fun _ => ?_⟩
    refine lexQ rfl rfl rfl rfl (fun H hM => (yIdxA1 rfl Try.underlying42 Try.sizeOf3 rfl rfl rfl (by decide))) ?_
    refine lexQ rfl rfl rfl rfl (fun H hM => (yLoad rfl Try.underlying3 rfl rfl (hM.ext.cell (hB5.cell (j := 1) rfl)))) ?_
    -- e slot 47: call F16<farandole/transport.Acked> t44 t46
    refine lexX rfl rfl rfl rfl (by simp) (fun H47 hX47 hM47 hN47 => stepCall rfl Try.call16 rfl ?_)
    have e47 := ((hE.trans hX44).trans hk4).trans hX47
    refine (acked_c s n1 A B ca cb _ (hA.ext e47) (hB.ext e47) l1.1 l1.2).mono ?_
    generalize hQ : ackedF s n1 = Q at va pa ⊢
    obtain ⟨eq, sq⟩ := Q
    rintro v K5 ⟨rfl, hk5⟩
    refine ⟨hk5, fun _ => ?_⟩
    dsimp only at va pa ⊢
    refine lexQ rfl rfl rfl rfl (fun H hM => (yMove (v := .tuple _) rfl rfl)) ?_
    refine lexQ rfl rfl rfl rfl (fun H hM => (yExtract (v := .agg _) rfl rfl rfl)) ?_
    refine lexQ rfl rfl rfl rfl (fun H hM => (yExtract (v := .int _ _) rfl rfl rfl)) ?_
    refine lexNB rfl rfl rfl rfl (nAlloc rfl Try.zeroValue29 rfl) (fun g13 hg13 hne13 => ?_)
    -- e slot None: store T29 t13 t48
    refine lexES0 rfl rfl rfl rfl (by first | assumption | omega) (by first | (dsimp only; rfl) | kernel_rfl) (by simp) (fun Hs hXs hMs hBs hFs => stepStoreB rfl (by kernel_rfl) rfl rfl rfl hBs rfl ?_)
    intro He hBa hKa
    have x1 := hXs
    refine ⟨hKa, by simp, ?_⟩
    -- tail
    refine lexNil (fun Hd hXf hMf hNf => ?_)
    have hT : Ext Hc Hd := ((((((hX44.trans hk4).trans hX47).trans hk5).trans x1).mine hKa (by simp; omega)).trans hXf)
    have hB13 : Blk Hd g13 (sdC sq none 0 none 0) 29 := Blk.ext hBa hXf
    replace hE := hE.trans hT
    replace hB3 := hB3.ext hT
    replace hB5 := hB5.ext hT
    replace hB7 := hB7.ext hT
    replace hB8 := hB8.ext hT
    replace hB10 := hB10.ext hT
    replace hB11 := hB11.ext hT
    replace a1 := a1.ext hT
    replace a2 := a2.ext hT
    replace a3 := a3.ext hT
    replace a4 := a4.ext hT
    replace b1 := b1.ext hT
    replace b2 := b2.ext hT
    replace b3 := b3.ext hT
    replace b4 := b4.ext hT
    clear hT hKa hBa hXf hMf hNf hk4 hk5 hX44 hX47 e47 x1
    refine seqQ rfl rfl (yAssign (v := .int _ _) rfl rfl) ?_
    refine seqNil ?_
    refine hF9 _ _ ?_; clear hF9
    refine wpSeq fun F10 hF10 => ?_
    refine wpRegion ?_
    refine seqQ rfl rfl (yLoadB hB3 rfl Try.underlying41 rfl Try.sizeOf41 rfl) ?_
    refine seqQ rfl rfl (yIdxA1 rfl Try.underlying42 Try.sizeOf3 rfl rfl rfl (by decide)) ?_
    refine seqQ rfl rfl (yLoad rfl Try.underlying3 rfl rfl (hB5.cell (j := 1) rfl)) ?_
    -- e slot 54: call F17<farandole/farandoleref50.Acked> t51 t53
    refine seqE rfl rfl (stepCall rfl Try.call17 rfl ?_)
    refine (rAcked_c s n1 A B ca cb _ (hA.ext hE) (hB.ext hE) l1.1 l1.2).mono ?_
    rw [hQ]
    rintro v K6 ⟨rfl, hk6⟩
    dsimp only
    refine seqQ rfl rfl (yMove (v := .tuple _) rfl rfl) ?_
    refine seqQ rfl rfl (yExtract (v := .agg _) rfl rfl rfl) ?_
    refine seqQ rfl rfl (yExtract (v := .int _ _) rfl rfl rfl) ?_
    refine seqN rfl rfl (nAlloc rfl Try.zeroValue41 rfl) (fun g15 H15 hx15 hB15 hg15 hl15 => ?_)
    -- e slot None: store T41 t15 t55
    have t1 := hk6.size
    have t15 := hx15.size
    refine seqE0 rfl rfl (stepStoreB rfl (by kernel_rfl) rfl rfl rfl hB15 rfl ?_)
    intro He hBa hKa
    have hT : Ext Hd He := ((hk6.trans hx15).mine hKa (by simp; omega))
    replace hB15 : Blk He g15 (sdC sq none 0 none 0) 41 := hBa
    replace hE := hE.trans hT
    replace hB3 := hB3.ext hT
    replace hB7 := hB7.ext hT
    replace hB8 := hB8.ext hT
    replace hB10 := hB10.ext hT
    replace hB11 := hB11.ext hT
    replace hB13 := hB13.ext hT
    replace a1 := a1.ext hT
    replace a2 := a2.ext hT
    replace a3 := a3.ext hT
    replace a4 := a4.ext hT
    replace b1 := b1.ext hT
    replace b2 := b2.ext hT
    replace b3 := b3.ext hT
    replace b4 := b4.ext hT
    clear hT hKa hBa hx15 hk6 hB5 t1 t15
    refine seqQ rfl rfl (yAssign (v := .int _ _) rfl rfl) ?_
    refine seqNil ?_
    refine hF10 _ _ ?_; clear hF10
    refine wpSeq fun F11 hF11 => ?_
    refine wpSeq fun F12 hF12 => ?_
    refine wpRegionD Try_mixed [.q, .q, .q, .q, .q, .e, .q, .e, .q, .q, .q, .q, .q, .e, .q, .q, .q, .q, .q, .q, .q, .q, .q, .e, .q, .e, .q, .q] 25 [0, 0, 3, 7, 15, 31, 15, 127, 255, 511, 1023, 2047, 2047, 8191, 16383, 32767, 65535, 131071, 131071, 524287, 1048575, 2097151, 4194303, 8388607, 4194303, 33554431, 67108863, 134217727] [] (by kernel_rfl) _ rfl [0, 1, 2, 3, 4, 5, 6, 7, 8, 9, 10, 11, 12, 13, 14, 15, 16, 17, 18, 19, 20, 21, 22, 23, 24] rfl (by simp) ?_
    refine lexQ rfl rfl rfl rfl (fun H hM => (yMove (v := .int _ _) rfl rfl)) ?_
    refine lexQ rfl rfl rfl rfl (fun H hM => (yMove (v := .int _ _) rfl rfl)) ?_
    refine lexQ rfl rfl rfl rfl (fun H hM => (yNeq rfl rfl rfl)) ?_
    -- guard t60
    rw [show (!decide (eo = eo)) = false by simp]
    refine lexQ rfl rfl rfl rfl (fun H hM => (yMove (v := .bool false) rfl rfl)) ?_
    refine lexQ rfl rfl rfl rfl (fun H hM => (yLoadB (hB7.ext hM.ext) rfl Try.underlying29 rfl Try.sizeOf29 rfl)) ?_
    -- e slot 62: call F19<farandole/farandolelaw50.From> t61
    refine lexX0 rfl rfl rfl rfl rfl (by simp) (fun hM62 => stepCall rfl Try.call19 rfl ?_)
    refine (from_c so As Bs cas cbs _).mono ?_
    rintro v K7 ⟨rfl, hk7⟩
    refine ⟨hk7, fun _ => ?_⟩
    refine lexQ rfl rfl rfl rfl (fun H hM => (yLoadB (hB10.ext hM.ext) rfl Try.underlying41 rfl Try.sizeOf41 rfl)) ?_
    -- e slot 64: call F18<farandole/farandoleref50.Equal> t62 t63
    refine lexX0 rfl rfl rfl rfl rfl (by simp) (fun hM64 => stepCall rfl Try.call18 rfl ?_)
    refine (sdEqual_c so so As Bs A1 B1 cas cbs ca1 cb1 _ (a1.ext hk7) (a2.ext hk7) (b1.ext hk7) (b2.ext hk7) (by omega) (by omega)).mono ?_
    rintro v K8 ⟨rfl, hk8⟩
    refine ⟨hk8, fun _ => ?_⟩
    rw [decide_eq_true (rfl : so = so)]
    have hk78 := hk7.trans hk8
    refine lexQ rfl rfl rfl rfl (fun H hM => (yNot rfl rfl)) ?_
    refine lexQ rfl rfl rfl rfl (fun H hM => (yPickF (v := .bool _) rfl rfl rfl)) ?_
    refine lexQ rfl rfl rfl rfl (fun H hM => (yMove (v := .bool false) rfl rfl)) ?_
    refine lexQ rfl rfl rfl rfl (fun H hM => (yLoadB (hB8.ext hM.ext) rfl Try.underlying27 rfl Try.sizeOf27 rfl)) ?_
    refine lexQ rfl rfl rfl rfl (fun H hM => (yLoadB (hB11.ext hM.ext) rfl Try.underlying39 rfl Try.sizeOf39 rfl)) ?_
    -- e slot 70: call F20<farandole/farandoleref46.Equal> t68 t69
    refine lexX0 rfl rfl rfl rfl rfl (by simp) (fun hM70 => stepCall rfl Try.call20 rfl ?_)
    refine (rEqual_c po po Ap Bp A2 B2 cap cbp ca2 cb2 _ (a3.ext hk78) (a4.ext hk78) (b3.ext hk78) (b4.ext hk78) (by omega) (by omega)).mono ?_
    rintro v K9 ⟨rfl, hk9⟩
    refine ⟨hk9, fun _ => ?_⟩
    rw [decide_eq_true (rfl : po = po)]
    refine lexQ rfl rfl rfl rfl (fun H hM => (yNot rfl rfl)) ?_
    refine lexQ rfl rfl rfl rfl (fun H hM => (yPickF (v := .bool _) rfl rfl rfl)) ?_
    refine lexQ rfl rfl rfl rfl (fun H hM => (yMove (v := .bool false) rfl rfl)) ?_
    refine lexQ rfl rfl rfl rfl (fun H hM => (yMove (v := .int _ _) rfl rfl)) ?_
    refine lexQ rfl rfl rfl rfl (fun H hM => (yMove (v := .int _ _) rfl rfl)) ?_
    refine lexQ rfl rfl rfl rfl (fun H hM => (yNeq rfl rfl rfl)) ?_
    refine lexQ rfl rfl rfl rfl (fun H hM => (yPickF (v := .bool _) rfl rfl rfl)) ?_
    -- guard t78
    rw [show (!decide (eq = eq)) = false by simp]
    refine lexQ rfl rfl rfl rfl (fun H hM => (yMove (v := .bool false) rfl rfl)) ?_
    refine lexQ rfl rfl rfl rfl (fun H hM => (yLoadB (hB13.ext hM.ext) rfl Try.underlying29 rfl Try.sizeOf29 rfl)) ?_
    -- e slot 80: call F19<farandole/farandolelaw50.From> t79
    refine lexX0 rfl rfl rfl rfl rfl (by simp) (fun hM80 => stepCall rfl Try.call19 rfl ?_)
    refine (from_c sq none none 0 0 _).mono ?_
    rintro v K10 ⟨rfl, hk10⟩
    refine ⟨hk10, fun _ => ?_⟩
    have hv0 : sq.pk.vals = [] := by rw [pa]; rfl
    have hc0 : sq.pk.clk = [] := by rw [pa]; rfl
    refine lexQ rfl rfl rfl rfl (fun H hM => (yLoadB (hB15.ext hM.ext) rfl Try.underlying41 rfl Try.sizeOf41 rfl)) ?_
    -- tail
    refine lexNil0 rfl (fun hM => ?_)
    -- e slot 82: call F18<farandole/farandoleref50.Equal> t80 t81
    refine seqE rfl rfl (stepCall rfl Try.call18 rfl ?_)
    refine (sdEqual_c sq sq none none none none 0 0 0 0 _ (by rw [hv0]; exact Rd.nil _ _) (by rw [hc0]; exact Rd.nil _ _) (by rw [hv0]; exact Rd.nil _ _) (by rw [hc0]; exact Rd.nil _ _) (by rw [hv0]; simp) (by rw [hc0]; simp)).mono ?_
    rintro v K11 ⟨rfl, hk11⟩
    rw [decide_eq_true (rfl : sq = sq)]
    have hT := ((hk78.trans hk9).trans hk10).trans hk11
    replace hE := hE.trans hT
    replace hB3 := hB3.ext hT
    replace hB7 := hB7.ext hT
    replace hB13 := hB13.ext hT
    replace a1 := a1.ext hT
    replace a2 := a2.ext hT
    clear hT hk7 hk8 hk78 hk9 hk10 hk11 hB8 hB10 hB11 hB15 a3 a4 b1 b2 b3 b4
    refine seqQ rfl rfl (yNot rfl rfl) ?_
    refine seqQ rfl rfl (yPickF (v := .bool _) rfl rfl rfl) ?_
    refine seqNil ?_
    refine hF12 _ _ ?_; clear hF12
    -- if t84
    refine wpF rfl ?_
    refine wpSkip ?_
    refine hF11 _ _ ?_; clear hF11
    refine wpSeq fun F13 hF13 => ?_
    refine wpRegionD Try_mixed [.q, .e, .e, .q, .e, .q, .q, .q, .q, .q, .q, .e, .q, .q, .q, .q, .q, .q, .q, .e, .q, .q, .q, .e, .e, .e, .e, .q, .q] 4 [0, 1, 3, 0, 15, 31, 63, 127, 255, 511, 1023, 2047, 4095, 8191, 16383, 32767, 65535, 131071, 262143, 524287, 1048575, 2097151, 4194303, 8388607, 16777215, 33554431, 67108863, 134217727, 268435455] [] (by kernel_rfl) _ rfl [0, 1, 2, 3] rfl (by simp) ?_
    refine lexQ rfl rfl rfl rfl (fun H hM => (yLoadB (hB3.ext hM.ext) rfl Try.underlying41 rfl Try.sizeOf41 rfl)) ?_
    -- e slot 86: call F14<farandole/farandolelaw50.To> t85
    refine lexX0 rfl rfl rfl rfl rfl (by simp) (fun hM86 => stepCall rfl Try.call14 rfl ?_)
    refine (to_c s A B ca cb _).mono ?_
    rintro v K12 ⟨rfl, hk12⟩
    refine ⟨hk12, fun _ => ?_⟩
    -- e slot 87: call F21<farandole/transport.Valid> t86
    refine lexX0 rfl rfl rfl rfl rfl (by simp) (fun hM87 => stepCall rfl Try.call21 rfl ?_)
    refine (sdValid_c s A B ca cb _ ((hA.ext hE).ext hk12) ((hB.ext hE).ext hk12) l1.1 l1.2).mono ?_
    rintro v K13 ⟨rfl, hk13⟩
    refine ⟨hk13, fun _ => ?_⟩
    refine lexQ rfl rfl rfl rfl (fun H hM => (yLoadB (hB3.ext hM.ext) rfl Try.underlying41 rfl Try.sizeOf41 rfl)) ?_
    -- tail
    refine lexNil0 rfl (fun hM => ?_)
    have hE13 := (hE.trans hk12).trans hk13
    -- e slot 89: call F22<farandole/farandoleref50.Valid> t88
    refine seqE rfl rfl (stepCall rfl Try.call22 rfl ?_)
    refine (rSdValid_c s A B ca cb _ (hA.ext hE13) (hB.ext hE13) l1.1 l1.2).mono ?_
    rintro v K14 ⟨rfl, hk14⟩
    have hE14 := hE13.trans hk14
    have hT := (hk12.trans hk13).trans hk14
    refine seqQ rfl rfl (yEqlB rfl Try.underlying4 rfl rfl) ?_
    -- guard t91
    rw [show (decide (SdP s) == decide (SdP s)) = true by simp]
    refine seqQ rfl rfl (yMove (v := .bool true) rfl rfl) ?_
    refine seqQ rfl rfl (yMove (v := .int _ _) rfl rfl) ?_
    refine seqQ rfl rfl (yNeq rfl rfl rfl) ?_
    -- guard t94
    by_cases he : eo = 0
    · skip
      rw [show (!decide (eo = 0)) = false by simp [he]]
      refine seqQ rfl rfl (yMove (v := .bool false) rfl rfl) ?_
      refine seqQ rfl rfl (yLoadB (hB7.ext hT) rfl Try.underlying29 rfl Try.sizeOf29 rfl) ?_
      -- e slot 96: call F21<farandole/transport.Valid> t95
      refine seqE rfl rfl (stepCall rfl Try.call21 rfl ?_)
      refine (sdValid_c so As Bs cas cbs _ (a1.ext hT) (a2.ext hT) (by omega) (by omega)).mono ?_
      rintro v K15 ⟨rfl, hk15⟩
      rw [decide_eq_true (vo he)]
      refine seqQ rfl rfl (yPickF (v := .bool _) rfl rfl rfl) ?_
      refine seqQ rfl rfl (yPickT (v := .bool _) rfl rfl rfl) ?_
      refine seqQ rfl rfl (yMove (v := .bool true) rfl rfl) ?_
      refine seqQ rfl rfl (yMove (v := .int _ _) rfl rfl) ?_
      refine seqQ rfl rfl (yNeq rfl rfl rfl) ?_
      -- guard t102
      by_cases hq : eq = 0
      · skip
        rw [show (!decide (eq = 0)) = false by simp [hq]]
        refine seqQ rfl rfl (yMove (v := .bool false) rfl rfl) ?_
        refine seqQ rfl rfl (yLoadB (hB13.ext (hT.trans hk15)) rfl Try.underlying29 rfl Try.sizeOf29 rfl) ?_
        -- e slot 104: call F21<farandole/transport.Valid> t103
        refine seqE rfl rfl (stepCall rfl Try.call21 rfl ?_)
        refine (sdValid_c sq none none 0 0 _ (by rw [hv0]; exact Rd.nil _ _) (by rw [hc0]; exact Rd.nil _ _) (by rw [hv0]; simp) (by rw [hc0]; simp)).mono ?_
        rintro v K16 ⟨rfl, hk16⟩
        rw [decide_eq_true (va hq)]
        refine seqQ rfl rfl (yPickF (v := .bool _) rfl rfl rfl) ?_
        refine seqQ rfl rfl (yPickT (v := .bool _) rfl rfl rfl) ?_
        refine seqQ rfl rfl (yMove (v := .bool true) rfl rfl) ?_
        -- e slot 108: call F9<farandole/transport.Start> 
        refine seqE rfl rfl (stepCall rfl Try.call9 rfl ?_)
        refine (start_c _).mono ?_
        rintro v K17 ⟨rfl, hk17⟩
        -- e slot 109: call F19<farandole/farandolelaw50.From> t108
        refine seqE rfl rfl (stepCall rfl Try.call19 rfl ?_)
        refine (from_c sd1 none none 0 0 _).mono ?_
        rintro v K18 ⟨rfl, hk18⟩
        -- e slot 110: call F23<farandole/farandoleref50.Start> 
        refine seqE rfl rfl (stepCall rfl Try.call23 rfl ?_)
        refine (rStart_c _).mono ?_
        rintro v K19 ⟨rfl, hk19⟩
        -- e slot 111: call F18<farandole/farandoleref50.Equal> t109 t110
        refine seqE rfl rfl (stepCall rfl Try.call18 rfl ?_)
        refine (sdEqual_c sd1 sd1 none none none none 0 0 0 0 _ (Rd.nil _ _) (Rd.nil _ _) (Rd.nil _ _) (Rd.nil _ _) (by decide) (by decide)).mono ?_
        rintro v K20 ⟨rfl, hk20⟩
        rw [decide_eq_true (rfl : sd1 = sd1)]
        refine seqQ rfl rfl (yPickT (v := .bool _) rfl rfl rfl) ?_
        refine seqQ rfl rfl (yAssign (v := .bool _) rfl rfl) ?_
        refine seqNil ?_
        refine hF13 _ _ ?_; clear hF13
        -- ret
        refine wpRet (fin1 (v := .bool _) rfl rfl ?_)
        exact ⟨rfl, (((((((hE14.trans hk15)).trans hk16)).trans hk17).trans hk18).trans hk19).trans hk20⟩
      · skip
        rw [show (!decide (eq = 0)) = true by simp [hq]]
        refine seqQ rfl rfl (yMove (v := .bool true) rfl rfl) ?_
        refine seqU rfl rfl ?_
        refine seqU rfl rfl ?_
        refine seqQ rfl rfl (yPickT (v := .bool _) rfl rfl rfl) ?_
        refine seqQ rfl rfl (yPickT (v := .bool _) rfl rfl rfl) ?_
        refine seqQ rfl rfl (yMove (v := .bool true) rfl rfl) ?_
        -- e slot 108: call F9<farandole/transport.Start> 
        refine seqE rfl rfl (stepCall rfl Try.call9 rfl ?_)
        refine (start_c _).mono ?_
        rintro v K17 ⟨rfl, hk17⟩
        -- e slot 109: call F19<farandole/farandolelaw50.From> t108
        refine seqE rfl rfl (stepCall rfl Try.call19 rfl ?_)
        refine (from_c sd1 none none 0 0 _).mono ?_
        rintro v K18 ⟨rfl, hk18⟩
        -- e slot 110: call F23<farandole/farandoleref50.Start> 
        refine seqE rfl rfl (stepCall rfl Try.call23 rfl ?_)
        refine (rStart_c _).mono ?_
        rintro v K19 ⟨rfl, hk19⟩
        -- e slot 111: call F18<farandole/farandoleref50.Equal> t109 t110
        refine seqE rfl rfl (stepCall rfl Try.call18 rfl ?_)
        refine (sdEqual_c sd1 sd1 none none none none 0 0 0 0 _ (Rd.nil _ _) (Rd.nil _ _) (Rd.nil _ _) (Rd.nil _ _) (by decide) (by decide)).mono ?_
        rintro v K20 ⟨rfl, hk20⟩
        rw [decide_eq_true (rfl : sd1 = sd1)]
        refine seqQ rfl rfl (yPickT (v := .bool _) rfl rfl rfl) ?_
        refine seqQ rfl rfl (yAssign (v := .bool _) rfl rfl) ?_
        refine seqNil ?_
        refine hF13 _ _ ?_; clear hF13
        -- ret
        refine wpRet (fin1 (v := .bool _) rfl rfl ?_)
        exact ⟨rfl, (((((hE14.trans hk15)).trans hk17).trans hk18).trans hk19).trans hk20⟩
    · skip
      rw [show (!decide (eo = 0)) = true by simp [he]]
      refine seqQ rfl rfl (yMove (v := .bool true) rfl rfl) ?_
      refine seqU rfl rfl ?_
      refine seqU rfl rfl ?_
      refine seqQ rfl rfl (yPickT (v := .bool _) rfl rfl rfl) ?_
      refine seqQ rfl rfl (yPickT (v := .bool _) rfl rfl rfl) ?_
      refine seqQ rfl rfl (yMove (v := .bool true) rfl rfl) ?_
      refine seqQ rfl rfl (yMove (v := .int _ _) rfl rfl) ?_
      refine seqQ rfl rfl (yNeq rfl rfl rfl) ?_
      -- guard t102
      by_cases hq : eq = 0
      · skip
        rw [show (!decide (eq = 0)) = false by simp [hq]]
        refine seqQ rfl rfl (yMove (v := .bool false) rfl rfl) ?_
        refine seqQ rfl rfl (yLoadB (hB13.ext hT) rfl Try.underlying29 rfl Try.sizeOf29 rfl) ?_
        -- e slot 104: call F21<farandole/transport.Valid> t103
        refine seqE rfl rfl (stepCall rfl Try.call21 rfl ?_)
        refine (sdValid_c sq none none 0 0 _ (by rw [hv0]; exact Rd.nil _ _) (by rw [hc0]; exact Rd.nil _ _) (by rw [hv0]; simp) (by rw [hc0]; simp)).mono ?_
        rintro v K16 ⟨rfl, hk16⟩
        rw [decide_eq_true (va hq)]
        refine seqQ rfl rfl (yPickF (v := .bool _) rfl rfl rfl) ?_
        refine seqQ rfl rfl (yPickT (v := .bool _) rfl rfl rfl) ?_
        refine seqQ rfl rfl (yMove (v := .bool true) rfl rfl) ?_
        -- e slot 108: call F9<farandole/transport.Start> 
        refine seqE rfl rfl (stepCall rfl Try.call9 rfl ?_)
        refine (start_c _).mono ?_
        rintro v K17 ⟨rfl, hk17⟩
        -- e slot 109: call F19<farandole/farandolelaw50.From> t108
        refine seqE rfl rfl (stepCall rfl Try.call19 rfl ?_)
        refine (from_c sd1 none none 0 0 _).mono ?_
        rintro v K18 ⟨rfl, hk18⟩
        -- e slot 110: call F23<farandole/farandoleref50.Start> 
        refine seqE rfl rfl (stepCall rfl Try.call23 rfl ?_)
        refine (rStart_c _).mono ?_
        rintro v K19 ⟨rfl, hk19⟩
        -- e slot 111: call F18<farandole/farandoleref50.Equal> t109 t110
        refine seqE rfl rfl (stepCall rfl Try.call18 rfl ?_)
        refine (sdEqual_c sd1 sd1 none none none none 0 0 0 0 _ (Rd.nil _ _) (Rd.nil _ _) (Rd.nil _ _) (Rd.nil _ _) (by decide) (by decide)).mono ?_
        rintro v K20 ⟨rfl, hk20⟩
        rw [decide_eq_true (rfl : sd1 = sd1)]
        refine seqQ rfl rfl (yPickT (v := .bool _) rfl rfl rfl) ?_
        refine seqQ rfl rfl (yAssign (v := .bool _) rfl rfl) ?_
        refine seqNil ?_
        refine hF13 _ _ ?_; clear hF13
        -- ret
        refine wpRet (fin1 (v := .bool _) rfl rfl ?_)
        exact ⟨rfl, ((((((hE14).trans hk16)).trans hk17).trans hk18).trans hk19).trans hk20⟩
      · skip
        rw [show (!decide (eq = 0)) = true by simp [hq]]
        refine seqQ rfl rfl (yMove (v := .bool true) rfl rfl) ?_
        refine seqU rfl rfl ?_
        refine seqU rfl rfl ?_
        refine seqQ rfl rfl (yPickT (v := .bool _) rfl rfl rfl) ?_
        refine seqQ rfl rfl (yPickT (v := .bool _) rfl rfl rfl) ?_
        refine seqQ rfl rfl (yMove (v := .bool true) rfl rfl) ?_
        -- e slot 108: call F9<farandole/transport.Start> 
        refine seqE rfl rfl (stepCall rfl Try.call9 rfl ?_)
        refine (start_c _).mono ?_
        rintro v K17 ⟨rfl, hk17⟩
        -- e slot 109: call F19<farandole/farandolelaw50.From> t108
        refine seqE rfl rfl (stepCall rfl Try.call19 rfl ?_)
        refine (from_c sd1 none none 0 0 _).mono ?_
        rintro v K18 ⟨rfl, hk18⟩
        -- e slot 110: call F23<farandole/farandoleref50.Start> 
        refine seqE rfl rfl (stepCall rfl Try.call23 rfl ?_)
        refine (rStart_c _).mono ?_
        rintro v K19 ⟨rfl, hk19⟩
        -- e slot 111: call F18<farandole/farandoleref50.Equal> t109 t110
        refine seqE rfl rfl (stepCall rfl Try.call18 rfl ?_)
        refine (sdEqual_c sd1 sd1 none none none none 0 0 0 0 _ (Rd.nil _ _) (Rd.nil _ _) (Rd.nil _ _) (Rd.nil _ _) (by decide) (by decide)).mono ?_
        rintro v K20 ⟨rfl, hk20⟩
        rw [decide_eq_true (rfl : sd1 = sd1)]
        refine seqQ rfl rfl (yPickT (v := .bool _) rfl rfl rfl) ?_
        refine seqQ rfl rfl (yAssign (v := .bool _) rfl rfl) ?_
        refine seqNil ?_
        refine hF13 _ _ ?_; clear hF13
        -- ret
        refine wpRet (fin1 (v := .bool _) rfl rfl ?_)
        exact ⟨rfl, ((((hE14).trans hk17).trans hk18).trans hk19).trans hk20⟩
end Go.Proofs.Ytcfnmklbkhibgaa
