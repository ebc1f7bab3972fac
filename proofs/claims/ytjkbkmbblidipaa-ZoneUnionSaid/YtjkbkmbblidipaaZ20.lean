/- ZoneUnion: Sub, Join and Widen return the specified results for any two zones of up to 8 variables. Conditions: none beyond the statement's. -/
import Derived.Test.YtjkbkmbblidipaaZ19
import Derived.Test.YtjkbkmbblidipaaZA
namespace Go.Proofs.Ytjkbkmbblidipaa
open Go.ChangeShapes Go.WideShapes Go.ChangeAt Go.RowKit Go.Deep

/- Two conversions and a call in a region, its zone in a variable. -/
/- .. a call alone. -/
set_option maxRecDepth 100000 in
theorem zUnion_walk (a b : Zn) (A B : Option Addr) (ca cb : Nat) (H : Heap) (hA : Rd eInt H A a.b) (hB : Rd eInt H B b.b) :
    CallsH Try.prog 10 [.agg (znC a A ca).toArray, .agg (znC b B cb).toArray] H fun v H' => v = .bool true ∧ Ext H H' := by
  obtain ⟨⟨zj, ej⟩, hjz⟩ : ∃ r, joinZ a b = r := ⟨_, rfl⟩
  obtain ⟨⟨zw, ew⟩, hwz⟩ : ∃ r, widZ a b = r := ⟨_, rfl⟩
  have hjl := joinZ_len a b
  have hwl := widZ_len a b
  have hjv := joinZ_val a b
  rw [hjz] at hjl hjv
  rw [hwz] at hwl
  dsimp only at hjl hwl hjv
  refine callsH_of Try.func10 rfl Try.ntmps10 (Nat.le_of_ble_eq_true rfl) ?_
  refine wpSeq fun F1 hF1 => ?_
  refine wpRegion ?_
  refine seqN rfl rfl (nBoxA rfl rfl) (fun g2 H2 hx2 hB2 hg2 hl2 => ?_)
  refine seqN rfl rfl (nBoxA rfl rfl) (fun g3 H3 hx3 hB3 hg3 hl3 => ?_)
  refine seqQ rfl rfl (yAssign (v := .bool _) rfl rfl) ?_
  refine seqNil ?_
  refine hF1 _ _ ?_; clear hF1
  refine wpSeq fun F2 hF2 => ?_
  refine wpSeq fun F3 hF3 => ?_
  refine wpRegion ?_
  -- e slot 13: call F12<farandole/farandolelaw13.awake> 
  refine seqE rfl rfl (stepCall rfl Try.call12 rfl ?_)
  refine (awake_c _).mono ?_
  rintro v Ha ⟨rfl, hxa⟩
  refine seqQ rfl rfl (yNot rfl rfl) ?_
  refine seqQ rfl rfl (yMove (v := .bool false) rfl rfl) ?_
  refine seqQ rfl rfl (yLoadB ((hB2.ext hx3).ext hxa) rfl Try.underlying24 rfl Try.sizeOf24 rfl) ?_
  -- e slot 17: call F13<farandole/farandoleref13.Few> t16
  refine seqE rfl rfl (stepCall rfl Try.call13 rfl ?_)
  refine (few_c a A ca _).mono ?_
  rintro v Hf ⟨rfl, hxf⟩
  have hE := ((hx2.trans hx3).trans hxa).trans hxf
  replace hB2 := ((hB2.ext hx3).ext hxa).ext hxf
  replace hB3 := (hB3.ext hxa).ext hxf
  clear hx2 hx3 hxa hxf
  refine seqQ rfl rfl (yNot rfl rfl) ?_
  refine seqQ rfl rfl (yPickF (v := .bool _) rfl rfl rfl) ?_
  -- guard t20
  refine seqGB rfl rfl rfl rfl (fun hf => ?_) (fun hf => ?_)
  · skip
    refine seqU rfl rfl ?_
    refine seqU rfl rfl ?_
    refine seqU rfl rfl ?_
    refine seqQ rfl rfl (yPickT (v := .bool _) rfl rfl rfl) ?_
    refine seqNil ?_
    refine hF3 _ _ ?_; clear hF3
    -- if t24
    refine wpT rfl ?_
    refine wpSeq fun F4 hF4 => ?_
    refine wpRegion ?_
    -- e slot 25: call F12<farandole/farandolelaw13.awake> 
    refine seqE rfl rfl (stepCall rfl Try.call12 rfl ?_)
    refine (awake_c _).mono ?_
    rintro v Ha ⟨rfl, hxa⟩
    refine seqQ rfl rfl (yAssign (v := .bool _) rfl rfl) ?_
    refine seqNil ?_
    refine hF4 _ _ ?_; clear hF4
    -- ret
    refine wpRet (fin1 (v := .bool _) rfl rfl ?_)
    exact ⟨rfl, hE.trans hxa⟩
  · skip
    have hf : a.N ≤ 8 ∧ a.b.length ≤ 100 := by simpa using hf
    obtain ⟨h8, -⟩ := hf
    refine seqQ rfl rfl (yLoadB hB3 rfl Try.underlying24 rfl Try.sizeOf24 rfl) ?_
    -- e slot 22: call F13<farandole/farandoleref13.Few> t21
    refine seqE rfl rfl (stepCall rfl Try.call13 rfl ?_)
    refine (few_c b B cb _).mono ?_
    rintro v Hg ⟨rfl, hxf⟩
    replace hE := hE.trans hxf
    replace hB2 := hB2.ext hxf
    replace hB3 := hB3.ext hxf
    clear hxf
    refine seqQ rfl rfl (yNot rfl rfl) ?_
    refine seqQ rfl rfl (yPickF (v := .bool _) rfl rfl rfl) ?_
    refine seqNil ?_
    refine hF3 _ _ ?_; clear hF3
    -- if t24
    refine wpCond rfl (fun hf => ?_) (fun hf => ?_)
    · skip
      refine wpSeq fun F5 hF5 => ?_
      refine wpRegion ?_
      -- e slot 25: call F12<farandole/farandolelaw13.awake> 
      refine seqE rfl rfl (stepCall rfl Try.call12 rfl ?_)
      refine (awake_c _).mono ?_
      rintro v Ha ⟨rfl, hxa⟩
      refine seqQ rfl rfl (yAssign (v := .bool _) rfl rfl) ?_
      refine seqNil ?_
      refine hF5 _ _ ?_; clear hF5
      -- ret
      refine wpRet (fin1 (v := .bool _) rfl rfl ?_)
      exact ⟨rfl, hE.trans hxa⟩
    · skip
      refine wpSkip ?_
      refine hF2 _ _ ?_; clear hF2
      refine wpSeq fun F6 hF6 => ?_
      refine wpRegionD Try_mixed [.q, .e, .q, .e, .e, .q, .q, .q, .n, .e, .q] 10 [0, 1, 0, 7, 15, 31, 63, 63, 0, 383, 1023] [] (by kernel_rfl) _ rfl [0, 1, 2, 3, 4, 5, 6, 7, 8, 9] rfl (by simp) ?_
      refine lexQ rfl rfl rfl rfl (fun H hM => (yLoadB (hB2.ext hM.ext) rfl Try.underlying24 rfl Try.sizeOf24 rfl)) ?_
      -- e slot 28: call F15<farandole/farandolelaw13.own> t27
      refine lexX rfl rfl rfl rfl (by simp) (fun H28 hX28 hM28 hN28 => stepCall rfl Try.call15 rfl ?_)
      refine (own_c a A ca _).mono ?_
      rintro v K1 ⟨rfl, k1⟩
      refine ⟨k1, fun _ => ?_⟩
      refine lexQ rfl rfl rfl rfl (fun H hM => (yLoadB (hB3.ext hM.ext) rfl Try.underlying24 rfl Try.sizeOf24 rfl)) ?_
      -- e slot 30: call F15<farandole/farandolelaw13.own> t29
      refine lexX rfl rfl rfl rfl (by simp) (fun H30 hX30 hM30 hN30 => stepCall rfl Try.call15 rfl ?_)
      refine (own_c b B cb _).mono ?_
      rintro v K2 ⟨rfl, k2⟩
      refine ⟨k2, fun _ => ?_⟩
      -- e slot 31: call F37<farandole/zone.Join> t28 t30
      refine lexE rfl rfl rfl rfl (fun H31 hX31 hM31 hN31 => stepCall rfl Try.call37 rfl ?_)
      have kk := (((hX28).trans k1).trans hX30).trans (k2.trans hX31)
      have hc := join_c a b A B ca cb _ ((hA.ext hE).ext kk) ((hB.ext hE).ext kk) h8
      rw [hjz] at hc
      dsimp only at hc
      refine hc.mono ?_
      rintro v K3 ⟨k3, u, rfl, A1, c1, rfl, ho⟩
      refine lexFr (F := (Value.slice A1 (zj).b.length c1).ownBlock.toList) k3 (fun b hb => by rw [Option.mem_toList] at hb; exact ho.lt b hb) (by simp) ?_
      refine lexQ rfl rfl rfl rfl (fun H hM => (yMove (v := .tuple _) rfl rfl)) ?_
      refine lexQ rfl rfl rfl rfl (fun H hM => (yExtract (v := .agg _) rfl rfl rfl)) ?_
      refine lexQ rfl rfl rfl rfl (fun H hM => (yExtract (v := .int _ _) rfl rfl rfl)) ?_
      refine lexNB rfl rfl rfl rfl (nAlloc rfl Try.zeroValue27 rfl) (fun g5 hg5 hne5 => ?_)
      -- e slot None: store T27 t5 t32
      refine lexES0 rfl rfl rfl rfl (by first | assumption | omega) (by first | (dsimp only; rfl) | kernel_rfl) (by simp) (fun Hs hXs hMs hBs hFs => stepStoreB rfl (by kernel_rfl) rfl rfl rfl hBs rfl ?_)
      intro K4 bj hK4
      have nn : ∀ b, (Value.slice A1 (zj).b.length c1).ownBlock = some b → b ≠ g5 := fun b hb e => hFs (List.mem_append.2 (.inl (by rw [Option.mem_toList, hb, e])))
      have xs := hXs
      refine ⟨hK4, fun b hb => by rw [List.append_nil, Option.mem_toList] at hb; have := (ho.lt b hb).2; have := xs.size; omega, ?_⟩
      -- tail
      refine lexNil (fun K5 hX5 hM5 hN5 => ?_)
      have x5 := (((kk.trans k3).trans xs).mine hK4 (by simp; omega)).trans hX5
      replace bj := (bj).ext hX5
      have rj := (Own.rd (((ho.ext xs).keep hK4 (fun b hb => by simpa using nn b hb)).ext hX5)).2
      clear hX28 hX30 hX31 k1 k2 k3 kk xs hXs hK4 hX5 hN5 ho hc nn
      replace hE := hE.trans x5
      replace hB2 := hB2.ext x5
      replace hB3 := hB3.ext x5
      clear x5
      refine seqQ rfl rfl (yAssign (v := .int _ _) rfl rfl) ?_
      refine seqNil ?_
      refine hF6 _ _ ?_; clear hF6
      refine wpSeq fun F7 hF7 => ?_
      refine wpRegion ?_
      refine seqQ rfl rfl (yLoadB hB2 rfl Try.underlying24 rfl Try.sizeOf24 rfl) ?_
      refine seqQ rfl rfl (yLoadB hB3 rfl Try.underlying24 rfl Try.sizeOf24 rfl) ?_
      -- e slot 37: call F38<farandole/farandoleref13.Join> t35 t36
      refine seqE rfl rfl (stepCall rfl Try.call38 rfl ?_)
      have hc := rJoin_c a b A B ca cb _ (hA.ext hE) (hB.ext hE) h8
      rw [hjz] at hc
      dsimp only at hc
      refine hc.mono ?_
      rintro v K3 ⟨k3, u, rfl, A2, c2, rfl, ho⟩
      have r1 := (Own.rd ho).2
      refine seqQ rfl rfl (yMove (v := .tuple _) rfl rfl) ?_
      refine seqQ rfl rfl (yExtract (v := .agg _) rfl rfl rfl) ?_
      refine seqQ rfl rfl (yExtract (v := .int _ _) rfl rfl rfl) ?_
      refine seqN rfl rfl (nAlloc rfl Try.zeroValue24 rfl) (fun g7 H7 hx7 hB7 hg7 hl7 => ?_)
      -- e slot None: store T24 t7 t38
      refine seqE0 rfl rfl (stepStoreB rfl (by kernel_rfl) rfl rfl rfl hB7 rfl ?_)
      intro K4 bj2 hK4
      have x5 := afterStore k3 hx7 hg7 hK4
      have rj2 := rdStore r1 hx7 hg7 hK4
      clear k3 hx7 hK4 ho hc r1 hB7
      replace hE := hE.trans x5
      replace hB2 := hB2.ext x5
      replace hB3 := hB3.ext x5
      replace rj := rj.ext x5
      replace bj := bj.ext x5
      clear x5
      refine seqQ rfl rfl (yAssign (v := .int _ _) rfl rfl) ?_
      refine seqNil ?_
      refine hF7 _ _ ?_; clear hF7
      refine wpSeq fun F8 hF8 => ?_
      refine wpRegionD Try_mixed [.q, .e, .q, .e, .e, .q, .q, .q, .n, .e, .q] 10 [0, 1, 0, 7, 15, 31, 63, 63, 0, 383, 1023] [] (by kernel_rfl) _ rfl [0, 1, 2, 3, 4, 5, 6, 7, 8, 9] rfl (by simp) ?_
      refine lexQ rfl rfl rfl rfl (fun H hM => (yLoadB (hB2.ext hM.ext) rfl Try.underlying24 rfl Try.sizeOf24 rfl)) ?_
      -- e slot 42: call F15<farandole/farandolelaw13.own> t41
      refine lexX rfl rfl rfl rfl (by simp) (fun H42 hX42 hM42 hN42 => stepCall rfl Try.call15 rfl ?_)
      refine (own_c a A ca _).mono ?_
      rintro v K1 ⟨rfl, k1⟩
      refine ⟨k1, fun _ => ?_⟩
      refine lexQ rfl rfl rfl rfl (fun H hM => (yLoadB (hB3.ext hM.ext) rfl Try.underlying24 rfl Try.sizeOf24 rfl)) ?_
      -- e slot 44: call F15<farandole/farandolelaw13.own> t43
      refine lexX rfl rfl rfl rfl (by simp) (fun H44 hX44 hM44 hN44 => stepCall rfl Try.call15 rfl ?_)
      refine (own_c b B cb _).mono ?_
      rintro v K2 ⟨rfl, k2⟩
      refine ⟨k2, fun _ => ?_⟩
      -- e slot 45: call F33<farandole/zone.Widen> t42 t44
      refine lexE rfl rfl rfl rfl (fun H45 hX45 hM45 hN45 => stepCall rfl Try.call33 rfl ?_)
      have kk := (((hX42).trans k1).trans hX44).trans (k2.trans hX45)
      have hc := widen_c a b A B ca cb _ ((hA.ext hE).ext kk) ((hB.ext hE).ext kk) h8
      rw [hwz] at hc
      dsimp only at hc
      refine hc.mono ?_
      rintro v K3 ⟨k3, u, rfl, A3, c3, rfl, ho⟩
      refine lexFr (F := (Value.slice A3 (zw).b.length c3).ownBlock.toList) k3 (fun b hb => by rw [Option.mem_toList] at hb; exact ho.lt b hb) (by simp) ?_
      refine lexQ rfl rfl rfl rfl (fun H hM => (yMove (v := .tuple _) rfl rfl)) ?_
      refine lexQ rfl rfl rfl rfl (fun H hM => (yExtract (v := .agg _) rfl rfl rfl)) ?_
      refine lexQ rfl rfl rfl rfl (fun H hM => (yExtract (v := .int _ _) rfl rfl rfl)) ?_
      refine lexNB rfl rfl rfl rfl (nAlloc rfl Try.zeroValue27 rfl) (fun g9 hg9 hne9 => ?_)
      -- e slot None: store T27 t9 t46
      refine lexES0 rfl rfl rfl rfl (by first | assumption | omega) (by first | (dsimp only; rfl) | kernel_rfl) (by simp) (fun Hs hXs hMs hBs hFs => stepStoreB rfl (by kernel_rfl) rfl rfl rfl hBs rfl ?_)
      intro K4 bw hK4
      have nn : ∀ b, (Value.slice A3 (zw).b.length c3).ownBlock = some b → b ≠ g9 := fun b hb e => hFs (List.mem_append.2 (.inl (by rw [Option.mem_toList, hb, e])))
      have xs := hXs
      refine ⟨hK4, fun b hb => by rw [List.append_nil, Option.mem_toList] at hb; have := (ho.lt b hb).2; have := xs.size; omega, ?_⟩
      -- tail
      refine lexNil (fun K5 hX5 hM5 hN5 => ?_)
      have x5 := (((kk.trans k3).trans xs).mine hK4 (by simp; omega)).trans hX5
      replace bw := (bw).ext hX5
      have rw_ := (Own.rd (((ho.ext xs).keep hK4 (fun b hb => by simpa using nn b hb)).ext hX5)).2
      clear hX42 hX44 hX45 k1 k2 k3 kk xs hXs hK4 hX5 hN5 ho hc nn
      replace hE := hE.trans x5
      replace hB2 := hB2.ext x5
      replace hB3 := hB3.ext x5
      replace rj := rj.ext x5
      replace bj := bj.ext x5
      replace rj2 := rj2.ext x5
      replace bj2 := bj2.ext x5
      clear x5
      refine seqQ rfl rfl (yAssign (v := .int _ _) rfl rfl) ?_
      refine seqNil ?_
      refine hF8 _ _ ?_; clear hF8
      refine wpSeq fun F9 hF9 => ?_
      refine wpRegion ?_
      refine seqQ rfl rfl (yLoadB hB2 rfl Try.underlying24 rfl Try.sizeOf24 rfl) ?_
      refine seqQ rfl rfl (yLoadB hB3 rfl Try.underlying24 rfl Try.sizeOf24 rfl) ?_
      -- e slot 51: call F39<farandole/farandoleref13.Widen> t49 t50
      refine seqE rfl rfl (stepCall rfl Try.call39 rfl ?_)
      have hc := rWiden_c a b A B ca cb _ (hA.ext hE) (hB.ext hE) h8
      rw [hwz] at hc
      dsimp only at hc
      refine hc.mono ?_
      rintro v K3 ⟨k3, u, rfl, A4, c4, rfl, ho⟩
      have r1 := (Own.rd ho).2
      refine seqQ rfl rfl (yMove (v := .tuple _) rfl rfl) ?_
      refine seqQ rfl rfl (yExtract (v := .agg _) rfl rfl rfl) ?_
      refine seqQ rfl rfl (yExtract (v := .int _ _) rfl rfl rfl) ?_
      refine seqN rfl rfl (nAlloc rfl Try.zeroValue24 rfl) (fun g11 H11 hx11 hB11 hg11 hl11 => ?_)
      -- e slot None: store T24 t11 t52
      refine seqE0 rfl rfl (stepStoreB rfl (by kernel_rfl) rfl rfl rfl hB11 rfl ?_)
      intro K4 bw2 hK4
      have x5 := afterStore k3 hx11 hg11 hK4
      have rw2 := rdStore r1 hx11 hg11 hK4
      clear k3 hx11 hK4 ho hc r1 hB11
      replace hE := hE.trans x5
      replace hB2 := hB2.ext x5
      replace hB3 := hB3.ext x5
      replace rj := rj.ext x5
      replace bj := bj.ext x5
      replace rj2 := rj2.ext x5
      replace bj2 := bj2.ext x5
      replace rw_ := rw_.ext x5
      replace bw := bw.ext x5
      clear x5
      have rA := hA.ext hE
      have rB := hB.ext hE
      refine seqQ rfl rfl (yAssign (v := .int _ _) rfl rfl) ?_
      refine seqNil ?_
      refine hF9 _ _ ?_; clear hF9
      refine wpSeq fun F10 hF10 => ?_
      refine wpRegionD Try_mixed [.q, .q, .q, .q, .q, .e, .q, .e, .q, .q, .q, .q, .q, .q, .q, .q, .e, .q, .e, .q, .q, .q, .e, .q, .e, .e, .q, .q, .e, .q, .q, .q, .q, .e, .q, .q, .q, .q, .q] 36 [0, 0, 3, 7, 15, 31, 15, 127, 255, 511, 1023, 1023, 4095, 8191, 16383, 32767, 65535, 32767, 262143, 524287, 1048575, 2097151, 4194303, 2097151, 16777215, 33554431, 2097151, 2097151, 268435455, 536870911, 1073741823, 2147483647, 4294967295, 8589934591, 4294967295, 21474836479, 68719476735, 137438953471, 274877906943] [] (by kernel_rfl) _ rfl [0, 1, 2, 3, 4, 5, 6, 7, 8, 9, 10, 11, 12, 13, 14, 15, 16, 17, 18, 19, 20, 21, 22, 23, 24, 25, 26, 27, 28, 29, 30, 31, 32, 33, 34, 35] rfl (by simp) ?_
      refine lexQ rfl rfl rfl rfl (fun H hM => (yMove (v := .int _ _) rfl rfl)) ?_
      refine lexQ rfl rfl rfl rfl (fun H hM => (yMove (v := .int _ _) rfl rfl)) ?_
      refine lexQ rfl rfl rfl rfl (fun H hM => (yEql rfl rfl rfl)) ?_
      -- guard t57
      rw [eqI]
      refine lexQ rfl rfl rfl rfl (fun H hM => (yMove (v := .bool true) rfl rfl)) ?_
      refine lexQ rfl rfl rfl rfl (fun H hM => (yLoadB (bj.ext hM.ext) rfl Try.underlying27 rfl Try.sizeOf27 rfl)) ?_
      -- e slot 59: call F22<farandole/farandolelaw13.theirs> t58
      refine lexX0 rfl rfl rfl rfl rfl (by simp) (fun hM59 => stepCall rfl Try.call22 rfl ?_)
      refine (theirs_c zj A1 c1 _).mono ?_
      rintro v K1 ⟨rfl, kE⟩
      refine ⟨kE, fun _ => ?_⟩
      refine lexQ rfl rfl rfl rfl (fun H hM => (yLoadB (bj2.ext hM.ext) rfl Try.underlying24 rfl Try.sizeOf24 rfl)) ?_
      -- e slot 61: call F21<farandole/farandoleref13.Same> t59 t60
      refine lexX0 rfl rfl rfl rfl rfl (by simp) (fun hM61 => stepCall rfl Try.call21 rfl ?_)
      refine (same_c zj zj A1 A2 c1 c2 _ (rj.ext kE) (rj2.ext kE) hjl).mono ?_
      rintro v K2 ⟨rfl, k2⟩
      refine ⟨k2, fun _ => ?_⟩
      replace kE := kE.trans k2
      rw [sameB]
      refine lexQ rfl rfl rfl rfl (fun H hM => (yPickT (v := .bool _) rfl rfl rfl)) ?_
      refine lexQ rfl rfl rfl rfl (fun H hM => (yMove (v := .bool true) rfl rfl)) ?_
      refine lexQ rfl rfl rfl rfl (fun H hM => (yMove (v := .int _ _) rfl rfl)) ?_
      refine lexQ rfl rfl rfl rfl (fun H hM => (yMove (v := .int _ _) rfl rfl)) ?_
      refine lexQ rfl rfl rfl rfl (fun H hM => (yEql rfl rfl rfl)) ?_
      refine lexQ rfl rfl rfl rfl (fun H hM => (yPickT (v := .bool _) rfl rfl rfl)) ?_
      -- guard t68
      rw [eqI]
      refine lexQ rfl rfl rfl rfl (fun H hM => (yMove (v := .bool true) rfl rfl)) ?_
      refine lexQ rfl rfl rfl rfl (fun H hM => (yLoadB (bw.ext hM.ext) rfl Try.underlying27 rfl Try.sizeOf27 rfl)) ?_
      -- e slot 70: call F22<farandole/farandolelaw13.theirs> t69
      refine lexX0 rfl rfl rfl rfl rfl (by simp) (fun hM70 => stepCall rfl Try.call22 rfl ?_)
      refine (theirs_c zw A3 c3 _).mono ?_
      rintro v K3 ⟨rfl, k3⟩
      refine ⟨k3, fun _ => ?_⟩
      replace kE := kE.trans k3
      refine lexQ rfl rfl rfl rfl (fun H hM => (yLoadB (bw2.ext hM.ext) rfl Try.underlying24 rfl Try.sizeOf24 rfl)) ?_
      -- e slot 72: call F21<farandole/farandoleref13.Same> t70 t71
      refine lexX0 rfl rfl rfl rfl rfl (by simp) (fun hM72 => stepCall rfl Try.call21 rfl ?_)
      refine (same_c zw zw A3 A4 c3 c4 _ (rw_.ext kE) (rw2.ext kE) hwl).mono ?_
      rintro v K4 ⟨rfl, k4⟩
      refine ⟨k4, fun _ => ?_⟩
      replace kE := kE.trans k4
      rw [sameB]
      refine lexQ rfl rfl rfl rfl (fun H hM => (yPickT (v := .bool _) rfl rfl rfl)) ?_
      refine lexQ rfl rfl rfl rfl (fun H hM => (yMove (v := .bool true) rfl rfl)) ?_
      refine lexQ rfl rfl rfl rfl (fun H hM => (yLoadB (hB2.ext hM.ext) rfl Try.underlying24 rfl Try.sizeOf24 rfl)) ?_
      -- e slot 76: call F15<farandole/farandolelaw13.own> t75
      refine lexX0 rfl rfl rfl rfl rfl (by simp) (fun hM76 => stepCall rfl Try.call15 rfl ?_)
      refine (own_c a A ca _).mono ?_
      rintro v K5 ⟨rfl, k5⟩
      refine ⟨k5, fun _ => ?_⟩
      replace kE := kE.trans k5
      refine lexQ rfl rfl rfl rfl (fun H hM => (yLoadB (hB3.ext hM.ext) rfl Try.underlying24 rfl Try.sizeOf24 rfl)) ?_
      -- e slot 78: call F15<farandole/farandolelaw13.own> t77
      refine lexX0 rfl rfl rfl rfl rfl (by simp) (fun hM78 => stepCall rfl Try.call15 rfl ?_)
      refine (own_c b B cb _).mono ?_
      rintro v K6 ⟨rfl, k6⟩
      refine ⟨k6, fun _ => ?_⟩
      replace kE := kE.trans k6
      -- e slot 79: call F34<farandole/zone.Sub> t76 t78
      refine lexX0 rfl rfl rfl rfl rfl (by simp) (fun hM79 => stepCall rfl Try.call34 rfl ?_)
      refine (sub_c a b A B ca cb _ (rA.ext kE) (rB.ext kE) h8).mono ?_
      rintro v K7 ⟨rfl, k7⟩
      refine ⟨k7, fun _ => ?_⟩
      replace kE := kE.trans k7
      refine lexQ rfl rfl rfl rfl (fun H hM => (yLoadB (hB2.ext hM.ext) rfl Try.underlying24 rfl Try.sizeOf24 rfl)) ?_
      refine lexQ rfl rfl rfl rfl (fun H hM => (yLoadB (hB3.ext hM.ext) rfl Try.underlying24 rfl Try.sizeOf24 rfl)) ?_
      -- e slot 82: call F40<farandole/farandoleref13.Sub> t80 t81
      refine lexX0 rfl rfl rfl rfl rfl (by simp) (fun hM82 => stepCall rfl Try.call40 rfl ?_)
      refine (rSub_c a b A B ca cb _ (rA.ext kE) (rB.ext kE) h8).mono ?_
      rintro v K8 ⟨rfl, k8⟩
      refine ⟨k8, fun _ => ?_⟩
      replace kE := kE.trans k8
      refine lexQ rfl rfl rfl rfl (fun H hM => (yEqlB rfl Try.underlying4 rfl rfl)) ?_
      refine lexQ rfl rfl rfl rfl (fun H hM => (yPickT (v := .bool _) rfl rfl rfl)) ?_
      -- guard t85
      rw [eqB]
      refine lexQ rfl rfl rfl rfl (fun H hM => (yMove (v := .bool true) rfl rfl)) ?_
      refine lexQ rfl rfl rfl rfl (fun H hM => (yLoadB (bj.ext hM.ext) rfl Try.underlying27 rfl Try.sizeOf27 rfl)) ?_
      -- e slot 87: call F27<farandole/zone.Valid> t86
      refine lexX0 rfl rfl rfl rfl rfl (by simp) (fun hM87 => stepCall rfl Try.call27 rfl ?_)
      refine (zvalid_c zj A1 c1 _ (rj.ext kE)).mono ?_
      rintro v K9 ⟨rfl, k9⟩
      refine ⟨k9, fun _ => ?_⟩
      replace kE := kE.trans k9
      refine lexQ rfl rfl rfl rfl (fun H hM => (yMove (v := .int _ _) rfl rfl)) ?_
      refine lexQ rfl rfl rfl rfl (fun H hM => (yEql rfl rfl rfl)) ?_
      -- tail
      refine lexNil0 rfl (fun hM => ?_)
      refine seqQ rfl rfl (yEqlB rfl Try.underlying4 rfl rfl) ?_
      refine seqQ rfl rfl (yPickT (v := .bool _) rfl rfl rfl) ?_
      refine seqQ rfl rfl (yAssign (v := .bool _) rfl rfl) ?_
      refine seqNil ?_
      refine hF10 _ _ ?_; clear hF10
      -- ret
      refine wpRet (fin1 (v := .bool _) rfl rfl ?_)
      refine ⟨?_, hE.trans kE⟩
      congr 1
      have : decide (ValZ zj) = decide (ej = 0) := decide_eq_decide.2 hjv
      rw [this, eqB]
set_option maxRecDepth 100000 in
set_option maxRecDepth 100000 in
theorem zoneUnion_lifted (os : Os) (started : os.Started) (H : Type) (enc : TypeId × Value → H) :
    ReturnsInHanded {} Try.checked os 10 .any (Rows.zoneUnionSpec.pre6 enc Try.prog Try.f10 Rows.zoneUnionRow.domain false) (Rows.zoneUnionSpec.post enc Try.prog Try.f10 false true false false) := by
  refine law_lifted started Rows.zoneUnionSpec rfl (by kernel_rfl) Try.func10 rfl
    (fun ds h => by match ds, h with | [_, _], _ => rfl) (of_decide_eq_true (by kernel_rfl))
    (ChangeSpec.witness6 (enc := enc) (C := Try.checked) false ⟨#[], #[.agg #[.int .i64 0, .slice none 0 0], .agg #[.int .i64 0, .slice none 0 0]], []⟩ 8 (by kernel_rfl) (by kernel_rfl) (by kernel_rfl) (by kernel_rfl)) ?_
  intro W base args ds p hval hA
  rw [Try.params10] at hA hval
  obtain ⟨v0, v1, d0, d1, p0, p1, rfl, rfl, rfl, h0, h1⟩ := trodAll_two hA
  have g0 := hval 0 _ v0 rfl rfl
  have g1 := hval 1 _ v1 rfl rfl
  obtain ⟨⟨a, A, ca⟩, rfl, kA, -⟩ := (opn_zn W).agg Try.underlying24 rfl g0 h0
  obtain ⟨⟨b, B, cb⟩, rfl, kB, -⟩ := (opn_zn W).agg Try.underlying24 rfl g1 h1
  exact zUnion_walk a b A B ca cb W.heap kA kB
set_option maxRecDepth 100000 in
theorem zoneUnion_holds : Rows.ZoneUnionSaid :=
  OpenClaim.holds_of_wide 10 Try.f10 rfl rfl rfl rfl rfl rfl rfl ⟨rfl, rfl, rfl, rfl, rfl⟩ rfl rfl rfl rfl rfl (by kernel_rfl) Try.func10 (by kernel_rfl)
    (of_decide_eq_true (by kernel_rfl)) (by unfold Func.isWrapper; first | (rw [if_pos (by decide +kernel)]; kernel_rfl) | (rw [if_neg (by decide +kernel)]; exact ⟨rfl, rfl⟩))
    (fun os started H enc _ => zoneUnion_lifted os started H enc)
end Go.Proofs.Ytjkbkmbblidipaa
