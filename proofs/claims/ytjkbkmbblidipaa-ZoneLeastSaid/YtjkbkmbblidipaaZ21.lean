/- ZoneLeast: Join contains both zones and is a part of each zone that does, and Widen contains it; valid zones of up to 8 variables. Conditions: none beyond the statement's. -/
import Derived.Test.YtjkbkmbblidipaaZ19
import Derived.Test.YtjkbkmbblidipaaZA
namespace Go.Proofs.Ytjkbkmbblidipaa
open Go.ChangeShapes Go.WideShapes Go.ChangeAt Go.RowKit Go.Deep

/- Two conversions and a call in a region, its zone in a variable. -/
set_option maxRecDepth 100000 in
theorem least_all {a b : Zn} (h : Both a b) : Both a (joinZ a b).1 ∧ Both b (joinZ a b).1 ∧ Both (joinZ a b).1 (widZ a b).1 ∧ Both (joinZ a b).1 (joinZ a b).1 ∧ subZ a (joinZ a b).1 = true ∧ subZ b (joinZ a b).1 = true ∧ subZ (joinZ a b).1 (widZ a b).1 = true ∧ subZ (joinZ a b).1 (joinZ a b).1 = true ∧
    ∀ c, ValZ c → c.N = a.N → subZ a c = true → subZ b c = true → subZ (joinZ a b).1 c = true := by
  obtain ⟨j1, j2, j3, j4, j5, j6⟩ := join_spec h
  obtain ⟨w1, w2, w3, w4, w5, w6⟩ := wid_spec h
  have hdm := h.dm
  have hdj : dm (joinZ a b).1 = dm a := by unfold dm; rw [j3]
  have b1 : Both a (joinZ a b).1 := ⟨h.1, j2, j3.symm⟩
  have b2 : Both b (joinZ a b).1 := ⟨h.2.1, j2, by rw [j3, h.2.2]⟩
  have b3 : Both (joinZ a b).1 (widZ a b).1 := ⟨j2, w2, by rw [j3, w3]⟩
  have b4 : Both (joinZ a b).1 (joinZ a b).1 := ⟨j2, j2, rfl⟩
  refine ⟨b1, b2, b3, b4, (subZ_iff b1).2 j4, (subZ_iff b2).2 (by rw [← hdm]; exact j5), (subZ_iff b3).2 (by rw [hdj]; exact w6), (subZ_iff b4).2 SubM.self, fun c hc hn h1 h2 => ?_⟩
  have c1 : Both a c := ⟨h.1, hc, hn.symm⟩
  have c2 : Both b c := ⟨h.2.1, hc, by rw [hn, h.2.2]⟩
  have c3 : Both (joinZ a b).1 c := ⟨j2, hc, by rw [j3, hn]⟩
  refine (subZ_iff c3).2 ?_
  rw [hdj]
  exact j6 _ ((subZ_iff c1).1 h1) (by rw [hdm]; exact (subZ_iff c2).1 h2)
set_option maxRecDepth 100000 in
theorem zLeast_walk (a b c : Zn) (A B C : Option Addr) (ca cb cc : Nat) (H : Heap) (hA : Rd eInt H A a.b) (hB : Rd eInt H B b.b) (hC : Rd eInt H C c.b) :
    CallsH Try.prog 11 [.agg (znC a A ca).toArray, .agg (znC b B cb).toArray, .agg (znC c C cc).toArray] H fun v H' => v = .bool true ∧ Ext H H' := by
  obtain ⟨⟨zj, ej⟩, hjz⟩ : ∃ r, joinZ a b = r := ⟨_, rfl⟩
  obtain ⟨⟨zw, ew⟩, hwz⟩ : ∃ r, widZ a b = r := ⟨_, rfl⟩
  refine callsH_of Try.func11 rfl Try.ntmps11 (Nat.le_of_ble_eq_true rfl) ?_
  refine wpSeq fun F1 hF1 => ?_
  refine wpRegion ?_
  refine seqN rfl rfl (nBoxA rfl rfl) (fun g3 H3 hx3 hB3 hg3 hl3 => ?_)
  refine seqN rfl rfl (nBoxA rfl rfl) (fun g4 H4 hx4 hB4 hg4 hl4 => ?_)
  refine seqN rfl rfl (nBoxA rfl rfl) (fun g5 H5 hx5 hB5 hg5 hl5 => ?_)
  refine seqQ rfl rfl (yAssign (v := .bool _) rfl rfl) ?_
  refine seqNil ?_
  refine hF1 _ _ ?_; clear hF1
  refine wpSeq fun F2 hF2 => ?_
  refine wpSeq fun F3 hF3 => ?_
  refine wpRegion ?_
  -- e slot 12: call F12<farandole/farandolelaw13.awake> 
  refine seqE rfl rfl (stepCall rfl Try.call12 rfl ?_)
  refine (awake_c _).mono ?_
  rintro v Ha ⟨rfl, hxa⟩
  refine seqQ rfl rfl (yNot rfl rfl) ?_
  refine seqQ rfl rfl (yMove (v := .bool false) rfl rfl) ?_
  refine seqQ rfl rfl (yLoadB (((hB3.ext hx4).ext hx5).ext hxa) rfl Try.underlying24 rfl Try.sizeOf24 rfl) ?_
  -- e slot 16: call F13<farandole/farandoleref13.Few> t15
  refine seqE rfl rfl (stepCall rfl Try.call13 rfl ?_)
  refine (few_c a A ca _).mono ?_
  rintro v Hf ⟨rfl, hxf⟩
  have hE := (((hx3.trans hx4).trans hx5).trans hxa).trans hxf
  replace hB3 := (((hB3.ext hx4).ext hx5).ext hxa).ext hxf
  replace hB4 := ((hB4.ext hx5).ext hxa).ext hxf
  replace hB5 := (hB5.ext hxa).ext hxf
  clear hx3 hx4 hx5 hxa hxf
  refine seqQ rfl rfl (yNot rfl rfl) ?_
  refine seqQ rfl rfl (yPickF (v := .bool _) rfl rfl rfl) ?_
  -- guard t19
  refine seqGB rfl rfl rfl rfl (fun hf => ?_) (fun hf => ?_)
  · skip
    refine seqU rfl rfl ?_
    refine seqU rfl rfl ?_
    refine seqU rfl rfl ?_
    refine seqQ rfl rfl (yPickT (v := .bool _) rfl rfl rfl) ?_
    refine seqQ rfl rfl (yMove (v := .bool true) rfl rfl) ?_
    refine seqU rfl rfl ?_
    refine seqU rfl rfl ?_
    refine seqU rfl rfl ?_
    refine seqQ rfl rfl (yPickT (v := .bool _) rfl rfl rfl) ?_
    refine seqNil ?_
    refine hF3 _ _ ?_; clear hF3
    -- if t28
    refine wpT rfl ?_
    refine wpSeq fun F4 hF4 => ?_
    refine wpRegion ?_
    -- e slot 29: call F12<farandole/farandolelaw13.awake> 
    refine seqE rfl rfl (stepCall rfl Try.call12 rfl ?_)
    refine (awake_c _).mono ?_
    rintro v Ha ⟨rfl, hxa⟩
    refine seqQ rfl rfl (yAssign (v := .bool _) rfl rfl) ?_
    refine seqNil ?_
    refine hF4 _ _ ?_; clear hF4
    -- ret
    refine wpRet (fin1 (v := .bool _) rfl rfl ?_)
    exact ⟨rfl, hE.trans hxa⟩
  · skip
    have hf : a.N ≤ 8 ∧ a.b.length ≤ 100 := by simpa using hf
    obtain ⟨h8, -⟩ := hf
    refine seqQ rfl rfl (yLoadB hB4 rfl Try.underlying24 rfl Try.sizeOf24 rfl) ?_
    -- e slot 21: call F13<farandole/farandoleref13.Few> t20
    refine seqE rfl rfl (stepCall rfl Try.call13 rfl ?_)
    refine (few_c b B cb _).mono ?_
    rintro v Hg ⟨rfl, hxf⟩
    replace hE := hE.trans hxf
    replace hB3 := hB3.ext hxf
    replace hB4 := hB4.ext hxf
    replace hB5 := hB5.ext hxf
    clear hxf
    refine seqQ rfl rfl (yNot rfl rfl) ?_
    refine seqQ rfl rfl (yPickF (v := .bool _) rfl rfl rfl) ?_
    -- guard t24
    refine seqGB rfl rfl rfl rfl (fun hf => ?_) (fun hf => ?_)
    · skip
      refine seqU rfl rfl ?_
      refine seqU rfl rfl ?_
      refine seqU rfl rfl ?_
      refine seqQ rfl rfl (yPickT (v := .bool _) rfl rfl rfl) ?_
      refine seqNil ?_
      refine hF3 _ _ ?_; clear hF3
      -- if t28
      refine wpT rfl ?_
      refine wpSeq fun F5 hF5 => ?_
      refine wpRegion ?_
      -- e slot 29: call F12<farandole/farandolelaw13.awake> 
      refine seqE rfl rfl (stepCall rfl Try.call12 rfl ?_)
      refine (awake_c _).mono ?_
      rintro v Ha ⟨rfl, hxa⟩
      refine seqQ rfl rfl (yAssign (v := .bool _) rfl rfl) ?_
      refine seqNil ?_
      refine hF5 _ _ ?_; clear hF5
      -- ret
      refine wpRet (fin1 (v := .bool _) rfl rfl ?_)
      exact ⟨rfl, hE.trans hxa⟩
    · skip
      have hf : b.N ≤ 8 ∧ b.b.length ≤ 100 := by simpa using hf
      obtain ⟨h8b, -⟩ := hf
      refine seqQ rfl rfl (yLoadB hB5 rfl Try.underlying24 rfl Try.sizeOf24 rfl) ?_
      -- e slot 26: call F13<farandole/farandoleref13.Few> t25
      refine seqE rfl rfl (stepCall rfl Try.call13 rfl ?_)
      refine (few_c c C cc _).mono ?_
      rintro v Hg ⟨rfl, hxf⟩
      replace hE := hE.trans hxf
      replace hB3 := hB3.ext hxf
      replace hB4 := hB4.ext hxf
      replace hB5 := hB5.ext hxf
      clear hxf
      refine seqQ rfl rfl (yNot rfl rfl) ?_
      refine seqQ rfl rfl (yPickF (v := .bool _) rfl rfl rfl) ?_
      refine seqNil ?_
      refine hF3 _ _ ?_; clear hF3
      -- if t28
      refine wpCond rfl (fun hf => ?_) (fun hf => ?_)
      · skip
        refine wpSeq fun F6 hF6 => ?_
        refine wpRegion ?_
        -- e slot 29: call F12<farandole/farandolelaw13.awake> 
        refine seqE rfl rfl (stepCall rfl Try.call12 rfl ?_)
        refine (awake_c _).mono ?_
        rintro v Ha ⟨rfl, hxa⟩
        refine seqQ rfl rfl (yAssign (v := .bool _) rfl rfl) ?_
        refine seqNil ?_
        refine hF6 _ _ ?_; clear hF6
        -- ret
        refine wpRet (fin1 (v := .bool _) rfl rfl ?_)
        exact ⟨rfl, hE.trans hxa⟩
      · skip
        refine wpSkip ?_
        refine hF2 _ _ ?_; clear hF2
        refine wpSeq fun F7 hF7 => ?_
        refine wpRegionD Try_mixed [.q, .e, .q, .e, .e, .q, .q, .q, .n, .e, .q] 10 [0, 1, 0, 7, 15, 31, 63, 63, 0, 383, 1023] [] (by kernel_rfl) _ rfl [0, 1, 2, 3, 4, 5, 6, 7, 8, 9] rfl (by simp) ?_
        refine lexQ rfl rfl rfl rfl (fun H hM => (yLoadB (hB3.ext hM.ext) rfl Try.underlying24 rfl Try.sizeOf24 rfl)) ?_
        -- e slot 32: call F15<farandole/farandolelaw13.own> t31
        refine lexX rfl rfl rfl rfl (by simp) (fun H32 hX32 hM32 hN32 => stepCall rfl Try.call15 rfl ?_)
        refine (own_c a A ca _).mono ?_
        rintro v K1 ⟨rfl, k1⟩
        refine ⟨k1, fun _ => ?_⟩
        refine lexQ rfl rfl rfl rfl (fun H hM => (yLoadB (hB4.ext hM.ext) rfl Try.underlying24 rfl Try.sizeOf24 rfl)) ?_
        -- e slot 34: call F15<farandole/farandolelaw13.own> t33
        refine lexX rfl rfl rfl rfl (by simp) (fun H34 hX34 hM34 hN34 => stepCall rfl Try.call15 rfl ?_)
        refine (own_c b B cb _).mono ?_
        rintro v K2 ⟨rfl, k2⟩
        refine ⟨k2, fun _ => ?_⟩
        -- e slot 35: call F37<farandole/zone.Join> t32 t34
        refine lexE rfl rfl rfl rfl (fun H35 hX35 hM35 hN35 => stepCall rfl Try.call37 rfl ?_)
        have kk := (((hX32).trans k1).trans hX34).trans (k2.trans hX35)
        have hc := join_c a b A B ca cb _ ((hA.ext hE).ext kk) ((hB.ext hE).ext kk) h8
        rw [hjz] at hc
        dsimp only at hc
        refine hc.mono ?_
        rintro v K3 ⟨k3, u, rfl, A1, c1, rfl, ho⟩
        refine lexFr (F := (Value.slice A1 (zj).b.length c1).ownBlock.toList) k3 (fun b hb => by rw [Option.mem_toList] at hb; exact ho.lt b hb) (by simp) ?_
        refine lexQ rfl rfl rfl rfl (fun H hM => (yMove (v := .tuple _) rfl rfl)) ?_
        refine lexQ rfl rfl rfl rfl (fun H hM => (yExtract (v := .agg _) rfl rfl rfl)) ?_
        refine lexQ rfl rfl rfl rfl (fun H hM => (yExtract (v := .int _ _) rfl rfl rfl)) ?_
        refine lexNB rfl rfl rfl rfl (nAlloc rfl Try.zeroValue27 rfl) (fun g7 hg7 hne7 => ?_)
        -- e slot None: store T27 t7 t36
        refine lexES0 rfl rfl rfl rfl (by first | assumption | omega) (by first | (dsimp only; rfl) | kernel_rfl) (by simp) (fun Hs hXs hMs hBs hFs => stepStoreB rfl (by kernel_rfl) rfl rfl rfl hBs rfl ?_)
        intro K4 bj hK4
        have nn : ∀ b, (Value.slice A1 (zj).b.length c1).ownBlock = some b → b ≠ g7 := fun b hb e => hFs (List.mem_append.2 (.inl (by rw [Option.mem_toList, hb, e])))
        have xs := hXs
        refine ⟨hK4, fun b hb => by rw [List.append_nil, Option.mem_toList] at hb; have := (ho.lt b hb).2; have := xs.size; omega, ?_⟩
        -- tail
        refine lexNil (fun K5 hX5 hM5 hN5 => ?_)
        have x5 := (((kk.trans k3).trans xs).mine hK4 (by simp; omega)).trans hX5
        replace bj := (bj).ext hX5
        have rj := (Own.rd (((ho.ext xs).keep hK4 (fun b hb => by simpa using nn b hb)).ext hX5)).2
        clear hX32 hX34 hX35 k1 k2 k3 kk xs hXs hK4 hX5 hN5 ho hc nn
        replace hE := hE.trans x5
        replace hB3 := hB3.ext x5
        replace hB4 := hB4.ext x5
        replace hB5 := hB5.ext x5
        clear x5
        refine seqQ rfl rfl (yAssign (v := .int _ _) rfl rfl) ?_
        refine seqNil ?_
        refine hF7 _ _ ?_; clear hF7
        refine wpSeq fun F8 hF8 => ?_
        refine wpRegionD Try_mixed [.q, .e, .q, .e, .e, .q, .q, .q, .n, .e, .q] 10 [0, 1, 0, 7, 15, 31, 63, 63, 0, 383, 1023] [] (by kernel_rfl) _ rfl [0, 1, 2, 3, 4, 5, 6, 7, 8, 9] rfl (by simp) ?_
        refine lexQ rfl rfl rfl rfl (fun H hM => (yLoadB (hB3.ext hM.ext) rfl Try.underlying24 rfl Try.sizeOf24 rfl)) ?_
        -- e slot 40: call F15<farandole/farandolelaw13.own> t39
        refine lexX rfl rfl rfl rfl (by simp) (fun H40 hX40 hM40 hN40 => stepCall rfl Try.call15 rfl ?_)
        refine (own_c a A ca _).mono ?_
        rintro v K1 ⟨rfl, k1⟩
        refine ⟨k1, fun _ => ?_⟩
        refine lexQ rfl rfl rfl rfl (fun H hM => (yLoadB (hB4.ext hM.ext) rfl Try.underlying24 rfl Try.sizeOf24 rfl)) ?_
        -- e slot 42: call F15<farandole/farandolelaw13.own> t41
        refine lexX rfl rfl rfl rfl (by simp) (fun H42 hX42 hM42 hN42 => stepCall rfl Try.call15 rfl ?_)
        refine (own_c b B cb _).mono ?_
        rintro v K2 ⟨rfl, k2⟩
        refine ⟨k2, fun _ => ?_⟩
        -- e slot 43: call F33<farandole/zone.Widen> t40 t42
        refine lexE rfl rfl rfl rfl (fun H43 hX43 hM43 hN43 => stepCall rfl Try.call33 rfl ?_)
        have kk := (((hX40).trans k1).trans hX42).trans (k2.trans hX43)
        have hc := widen_c a b A B ca cb _ ((hA.ext hE).ext kk) ((hB.ext hE).ext kk) h8
        rw [hwz] at hc
        dsimp only at hc
        refine hc.mono ?_
        rintro v K3 ⟨k3, u, rfl, A3, c3, rfl, ho⟩
        refine lexFr (F := (Value.slice A3 (zw).b.length c3).ownBlock.toList) k3 (fun b hb => by rw [Option.mem_toList] at hb; exact ho.lt b hb) (by simp) ?_
        refine lexQ rfl rfl rfl rfl (fun H hM => (yMove (v := .tuple _) rfl rfl)) ?_
        refine lexQ rfl rfl rfl rfl (fun H hM => (yExtract (v := .agg _) rfl rfl rfl)) ?_
        refine lexQ rfl rfl rfl rfl (fun H hM => (yExtract (v := .int _ _) rfl rfl rfl)) ?_
        refine lexNB rfl rfl rfl rfl (nAlloc rfl Try.zeroValue27 rfl) (fun g9 hg9 hne9 => ?_)
        -- e slot None: store T27 t9 t44
        refine lexES0 rfl rfl rfl rfl (by first | assumption | omega) (by first | (dsimp only; rfl) | kernel_rfl) (by simp) (fun Hs hXs hMs hBs hFs => stepStoreB rfl (by kernel_rfl) rfl rfl rfl hBs rfl ?_)
        intro K4 bw hK4
        have nn : ∀ b, (Value.slice A3 (zw).b.length c3).ownBlock = some b → b ≠ g9 := fun b hb e => hFs (List.mem_append.2 (.inl (by rw [Option.mem_toList, hb, e])))
        have xs := hXs
        refine ⟨hK4, fun b hb => by rw [List.append_nil, Option.mem_toList] at hb; have := (ho.lt b hb).2; have := xs.size; omega, ?_⟩
        -- tail
        refine lexNil (fun K5 hX5 hM5 hN5 => ?_)
        have x5 := (((kk.trans k3).trans xs).mine hK4 (by simp; omega)).trans hX5
        replace bw := (bw).ext hX5
        have rw_ := (Own.rd (((ho.ext xs).keep hK4 (fun b hb => by simpa using nn b hb)).ext hX5)).2
        clear hX40 hX42 hX43 k1 k2 k3 kk xs hXs hK4 hX5 hN5 ho hc nn
        replace hE := hE.trans x5
        replace hB3 := hB3.ext x5
        replace hB4 := hB4.ext x5
        replace hB5 := hB5.ext x5
        replace rj := rj.ext x5
        replace bj := bj.ext x5
        clear x5
        by_cases hb : Both a b
        · have la := least_all hb
          have j1 := (join_spec hb).1
          have w1 := (wid_spec hb).1
          have jN := (join_spec hb).2.2.1
          rw [hjz] at la j1 jN
          rw [hwz] at la w1
          dsimp only at la j1 jN w1
          obtain ⟨b1, b2, b3, b4, s1, s2, s3, s4, s5⟩ := la
          subst j1 w1
          refine seqQ rfl rfl (yAssign (v := .int _ _) rfl rfl) ?_
          refine seqNil ?_
          refine hF8 _ _ ?_; clear hF8
          refine wpSeq fun F9 hF9 => ?_
          refine wpSeq fun F10 hF10 => ?_
          refine wpRegion ?_
          refine seqQ rfl rfl (yMove (v := .int _ _) rfl rfl) ?_
          refine seqQ rfl rfl (yNeq rfl rfl rfl) ?_
          refine seqQ rfl rfl (yMove (v := .bool false) rfl rfl) ?_
          refine seqQ rfl rfl (yMove (v := .int _ _) rfl rfl) ?_
          refine seqQ rfl rfl (yNeq rfl rfl rfl) ?_
          refine seqQ rfl rfl (yPickF (v := .bool _) rfl rfl rfl) ?_
          refine seqNil ?_
          refine hF10 _ _ ?_; clear hF10
          -- if t51
          refine wpF rfl ?_
          have rA := hA.ext hE
          have rB := hB.ext hE
          have rC := hC.ext hE
          have j8 : zj.N ≤ 8 := by omega
          refine wpSkip ?_
          refine hF9 _ _ ?_; clear hF9
          refine wpSeq fun F11 hF11 => ?_
          refine wpSeq fun F12 hF12 => ?_
          refine wpRegionD Try_mixed [.q, .e, .q, .e, .q, .q, .q, .e, .q, .e, .q, .q, .q, .q, .q, .e, .q, .q, .q, .q, .q, .e, .q, .q] 21 [0, 1, 0, 7, 15, 31, 63, 127, 63, 511, 1023, 2047, 4095, 8191, 8191, 32767, 65535, 131071, 262143, 524287, 524287, 2097151, 4194303, 8388607] [] (by kernel_rfl) _ rfl [0, 1, 2, 3, 4, 5, 6, 7, 8, 9, 10, 11, 12, 13, 14, 15, 16, 17, 18, 19, 20] rfl (by simp) ?_
          refine lexQ rfl rfl rfl rfl (fun H hM => (yLoadB (hB3.ext hM.ext) rfl Try.underlying24 rfl Try.sizeOf24 rfl)) ?_
          -- e slot 59: call F15<farandole/farandolelaw13.own> t58
          refine lexX0 rfl rfl rfl rfl rfl (by simp) (fun hM59 => stepCall rfl Try.call15 rfl ?_)
          refine (own_c a A ca _).mono ?_
          rintro v K1 ⟨rfl, kE⟩
          refine ⟨kE, fun _ => ?_⟩
          refine lexQ rfl rfl rfl rfl (fun H hM => (yLoadB (bj.ext hM.ext) rfl Try.underlying27 rfl Try.sizeOf27 rfl)) ?_
          -- e slot 61: call F34<farandole/zone.Sub> t59 t60
          refine lexX0 rfl rfl rfl rfl rfl (by simp) (fun hM61 => stepCall rfl Try.call34 rfl ?_)
          refine (sub_c a zj A A1 ca c1 _ (rA.ext kE) (rj.ext kE) h8).mono ?_
          rintro v K2 ⟨rfl, k2⟩
          refine ⟨k2, fun _ => ?_⟩
          replace kE := kE.trans k2
          rw [s1]
          refine lexQ rfl rfl rfl rfl (fun H hM => (yNot rfl rfl)) ?_
          refine lexQ rfl rfl rfl rfl (fun H hM => (yMove (v := .bool false) rfl rfl)) ?_
          refine lexQ rfl rfl rfl rfl (fun H hM => (yLoadB (hB4.ext hM.ext) rfl Try.underlying24 rfl Try.sizeOf24 rfl)) ?_
          -- e slot 65: call F15<farandole/farandolelaw13.own> t64
          refine lexX0 rfl rfl rfl rfl rfl (by simp) (fun hM65 => stepCall rfl Try.call15 rfl ?_)
          refine (own_c b B cb _).mono ?_
          rintro v K3 ⟨rfl, k3⟩
          refine ⟨k3, fun _ => ?_⟩
          replace kE := kE.trans k3
          refine lexQ rfl rfl rfl rfl (fun H hM => (yLoadB (bj.ext hM.ext) rfl Try.underlying27 rfl Try.sizeOf27 rfl)) ?_
          -- e slot 67: call F34<farandole/zone.Sub> t65 t66
          refine lexX0 rfl rfl rfl rfl rfl (by simp) (fun hM67 => stepCall rfl Try.call34 rfl ?_)
          refine (sub_c b zj B A1 cb c1 _ (rB.ext kE) (rj.ext kE) h8b).mono ?_
          rintro v K4 ⟨rfl, k4⟩
          refine ⟨k4, fun _ => ?_⟩
          replace kE := kE.trans k4
          rw [s2]
          refine lexQ rfl rfl rfl rfl (fun H hM => (yNot rfl rfl)) ?_
          refine lexQ rfl rfl rfl rfl (fun H hM => (yPickF (v := .bool _) rfl rfl rfl)) ?_
          refine lexQ rfl rfl rfl rfl (fun H hM => (yMove (v := .bool false) rfl rfl)) ?_
          refine lexQ rfl rfl rfl rfl (fun H hM => (yLoadB (bj.ext hM.ext) rfl Try.underlying27 rfl Try.sizeOf27 rfl)) ?_
          refine lexQ rfl rfl rfl rfl (fun H hM => (yLoadB (bw.ext hM.ext) rfl Try.underlying27 rfl Try.sizeOf27 rfl)) ?_
          -- e slot 73: call F34<farandole/zone.Sub> t71 t72
          refine lexX0 rfl rfl rfl rfl rfl (by simp) (fun hM73 => stepCall rfl Try.call34 rfl ?_)
          refine (sub_c zj zw A1 A3 c1 c3 _ (rj.ext kE) (rw_.ext kE) j8).mono ?_
          rintro v K5 ⟨rfl, k5⟩
          refine ⟨k5, fun _ => ?_⟩
          replace kE := kE.trans k5
          rw [s3]
          refine lexQ rfl rfl rfl rfl (fun H hM => (yNot rfl rfl)) ?_
          refine lexQ rfl rfl rfl rfl (fun H hM => (yPickF (v := .bool _) rfl rfl rfl)) ?_
          refine lexQ rfl rfl rfl rfl (fun H hM => (yMove (v := .bool false) rfl rfl)) ?_
          refine lexQ rfl rfl rfl rfl (fun H hM => (yLoadB (bj.ext hM.ext) rfl Try.underlying27 rfl Try.sizeOf27 rfl)) ?_
          refine lexQ rfl rfl rfl rfl (fun H hM => (yLoadB (bj.ext hM.ext) rfl Try.underlying27 rfl Try.sizeOf27 rfl)) ?_
          -- tail
          refine lexNil0 rfl (fun hM => ?_)
          -- e slot 79: call F34<farandole/zone.Sub> t77 t78
          refine seqE rfl rfl (stepCall rfl Try.call34 rfl ?_)
          refine (sub_c zj zj A1 A1 c1 c1 _ (rj.ext kE) (rj.ext kE) j8).mono ?_
          rintro v K6 ⟨rfl, k6⟩
          replace kE := kE.trans k6
          rw [s4]
          replace hE := hE.trans kE
          replace hB3 := hB3.ext kE
          replace hB4 := hB4.ext kE
          replace hB5 := hB5.ext kE
          replace rj := rj.ext kE
          replace bj := bj.ext kE
          clear kE k2 k3 k4 k5 k6 bw rw_ rA rB rC
          refine seqQ rfl rfl (yNot rfl rfl) ?_
          refine seqQ rfl rfl (yPickF (v := .bool _) rfl rfl rfl) ?_
          refine seqNil ?_
          refine hF12 _ _ ?_; clear hF12
          -- if t81
          refine wpF rfl ?_
          have rA := hA.ext hE
          have rB := hB.ext hE
          have rC := hC.ext hE
          refine wpSkip ?_
          refine hF11 _ _ ?_; clear hF11
          refine wpSeq fun F13 hF13 => ?_
          refine wpRegionD Try_mixed [.q, .e, .e, .q, .q, .q, .q, .q, .q, .q, .q, .q, .e, .q, .e, .e, .q, .q, .q, .e, .q, .e, .e, .q, .q] 21 [0, 1, 3, 7, 15, 31, 15, 79, 255, 511, 1023, 2047, 4095, 2047, 16383, 32767, 65535, 131071, 262143, 524287, 262143, 2097151, 4194303, 8388607, 16777215] [] (by kernel_rfl) _ rfl [0, 1, 2, 3, 4, 5, 6, 7, 8, 9, 10, 11, 12, 13, 14, 15, 16, 17, 18, 19, 20] rfl (by simp) ?_
          refine lexQ rfl rfl rfl rfl (fun H hM => (yLoadB (hB5.ext hM.ext) rfl Try.underlying24 rfl Try.sizeOf24 rfl)) ?_
          -- e slot 83: call F15<farandole/farandolelaw13.own> t82
          refine lexX0 rfl rfl rfl rfl rfl (by simp) (fun hM83 => stepCall rfl Try.call15 rfl ?_)
          refine (own_c c C cc _).mono ?_
          rintro v K1 ⟨rfl, kE⟩
          refine ⟨kE, fun _ => ?_⟩
          -- e slot 84: call F27<farandole/zone.Valid> t83
          refine lexX0 rfl rfl rfl rfl rfl (by simp) (fun hM84 => stepCall rfl Try.call27 rfl ?_)
          refine (zvalid_c c C cc _ (rC.ext kE)).mono ?_
          rintro v K2 ⟨rfl, k2⟩
          refine ⟨k2, fun _ => ?_⟩
          replace kE := kE.trans k2
          by_cases hc : ValZ c
          · skip
            rw [decide_eq_true hc]
            refine lexQ rfl rfl rfl rfl (fun H hM => (yMove (v := .bool true) rfl rfl)) ?_
            refine lexQ rfl rfl rfl rfl (fun H hM => (yFieldAddr rfl Try.underlying24 rfl Try.sizeOf3 rfl rfl)) ?_
            refine lexQ rfl rfl rfl rfl (fun H hM => (yLoad rfl Try.underlying3 rfl rfl (hM.ext.cell (hB5.cell rfl)))) ?_
            refine lexQ rfl rfl rfl rfl (fun H hM => (yFieldAddr rfl Try.underlying24 rfl Try.sizeOf3 rfl rfl)) ?_
            refine lexQ rfl rfl rfl rfl (fun H hM => (yLoad rfl Try.underlying3 rfl rfl (hM.ext.cell (hB3.cell rfl)))) ?_
            refine lexQ rfl rfl rfl rfl (fun H hM => (yEql rfl rfl rfl)) ?_
            refine lexQ rfl rfl rfl rfl (fun H hM => (yPickT (v := .bool _) rfl rfl rfl)) ?_
            -- guard t92
            by_cases hn : c.N = a.N
            · skip
              rw [decide_eq_true hn]
              refine lexQ rfl rfl rfl rfl (fun H hM => (yMove (v := .bool true) rfl rfl)) ?_
              refine lexQ rfl rfl rfl rfl (fun H hM => (yLoadB (hB3.ext hM.ext) rfl Try.underlying24 rfl Try.sizeOf24 rfl)) ?_
              -- e slot 94: call F15<farandole/farandolelaw13.own> t93
              refine lexX0 rfl rfl rfl rfl rfl (by simp) (fun hM94 => stepCall rfl Try.call15 rfl ?_)
              refine (own_c a A ca _).mono ?_
              rintro v K3 ⟨rfl, k3⟩
              refine ⟨k3, fun _ => ?_⟩
              replace kE := kE.trans k3
              refine lexQ rfl rfl rfl rfl (fun H hM => (yLoadB (hB5.ext hM.ext) rfl Try.underlying24 rfl Try.sizeOf24 rfl)) ?_
              -- e slot 96: call F15<farandole/farandolelaw13.own> t95
              refine lexX0 rfl rfl rfl rfl rfl (by simp) (fun hM96 => stepCall rfl Try.call15 rfl ?_)
              refine (own_c c C cc _).mono ?_
              rintro v K4 ⟨rfl, k4⟩
              refine ⟨k4, fun _ => ?_⟩
              replace kE := kE.trans k4
              -- e slot 97: call F34<farandole/zone.Sub> t94 t96
              refine lexX0 rfl rfl rfl rfl rfl (by simp) (fun hM97 => stepCall rfl Try.call34 rfl ?_)
              refine (sub_c a c A C ca cc _ (rA.ext kE) (rC.ext kE) h8).mono ?_
              rintro v K5 ⟨rfl, k5⟩
              refine ⟨k5, fun _ => ?_⟩
              replace kE := kE.trans k5
              by_cases h1 : subZ a c = true
              · skip
                rw [h1]
                refine lexQ rfl rfl rfl rfl (fun H hM => (yPickT (v := .bool _) rfl rfl rfl)) ?_
                refine lexQ rfl rfl rfl rfl (fun H hM => (yMove (v := .bool true) rfl rfl)) ?_
                refine lexQ rfl rfl rfl rfl (fun H hM => (yLoadB (hB4.ext hM.ext) rfl Try.underlying24 rfl Try.sizeOf24 rfl)) ?_
                -- e slot 101: call F15<farandole/farandolelaw13.own> t100
                refine lexX0 rfl rfl rfl rfl rfl (by simp) (fun hM101 => stepCall rfl Try.call15 rfl ?_)
                refine (own_c b B cb _).mono ?_
                rintro v K6 ⟨rfl, k6⟩
                refine ⟨k6, fun _ => ?_⟩
                replace kE := kE.trans k6
                refine lexQ rfl rfl rfl rfl (fun H hM => (yLoadB (hB5.ext hM.ext) rfl Try.underlying24 rfl Try.sizeOf24 rfl)) ?_
                -- tail
                refine lexNil0 rfl (fun hM => ?_)
                -- e slot 103: call F15<farandole/farandolelaw13.own> t102
                refine seqE rfl rfl (stepCall rfl Try.call15 rfl ?_)
                refine (own_c c C cc _).mono ?_
                rintro v K7 ⟨rfl, k7⟩
                replace kE := kE.trans k7
                -- e slot 104: call F34<farandole/zone.Sub> t101 t103
                refine seqE rfl rfl (stepCall rfl Try.call34 rfl ?_)
                refine (sub_c b c B C cb cc _ (rB.ext kE) (rC.ext kE) h8b).mono ?_
                rintro v K8 ⟨rfl, k8⟩
                replace kE := kE.trans k8
                refine seqQ rfl rfl (yPickT (v := .bool _) rfl rfl rfl) ?_
                refine seqQ rfl rfl (yAssign (v := .bool _) rfl rfl) ?_
                refine seqNil ?_
                refine hF13 _ _ ?_; clear hF13
                refine wpSeq fun F14 hF14 => ?_
                refine wpRegionD Try_mixed [.q, .q, .q, .q, .q, .e, .e, .q, .q] 6 [0, 1, 3, 7, 7, 23, 63, 127, 255] [] (by kernel_rfl) _ rfl [0, 1, 2, 3, 4, 5] rfl (by simp) ?_
                refine lexQ rfl rfl rfl rfl (fun H hM => (yMove (v := .bool _) rfl rfl)) ?_
                refine lexQ rfl rfl rfl rfl (fun H hM => (yNot rfl rfl)) ?_
                -- guard t108
                by_cases h2 : subZ b c = true
                · skip
                  rw [h2]
                  refine lexQ rfl rfl rfl rfl (fun H hM => (yMove (v := .bool false) rfl rfl)) ?_
                  refine lexQ rfl rfl rfl rfl (fun H hM => (yLoadB ((bj.ext kE).ext hM.ext) rfl Try.underlying27 rfl Try.sizeOf27 rfl)) ?_
                  refine lexQ rfl rfl rfl rfl (fun H hM => (yLoadB ((hB5.ext kE).ext hM.ext) rfl Try.underlying24 rfl Try.sizeOf24 rfl)) ?_
                  -- e slot 111: call F15<farandole/farandolelaw13.own> t110
                  refine lexX0 rfl rfl rfl rfl rfl (by simp) (fun hM111 => stepCall rfl Try.call15 rfl ?_)
                  refine (own_c c C cc _).mono ?_
                  rintro v K9 ⟨rfl, k9⟩
                  refine ⟨k9, fun _ => ?_⟩
                  -- tail
                  refine lexNil0 rfl (fun hM => ?_)
                  -- e slot 112: call F34<farandole/zone.Sub> t109 t111
                  refine seqE rfl rfl (stepCall rfl Try.call34 rfl ?_)
                  refine (sub_c zj c A1 C c1 cc _ ((rj.ext kE).ext k9) ((rC.ext kE).ext k9) j8).mono ?_
                  rintro v K10 ⟨rfl, k10⟩
                  rw [s5 c hc hn h1 h2]
                  refine seqQ rfl rfl (yPickF (v := .bool _) rfl rfl rfl) ?_
                  refine seqQ rfl rfl (yAssign (v := .bool _) rfl rfl) ?_
                  refine seqNil ?_
                  refine hF14 _ _ ?_; clear hF14
                  -- ret
                  refine wpRet (fin1 (v := .bool _) rfl rfl ?_)
                  exact ⟨rfl, ((hE.trans kE).trans k9).trans k10⟩
                · skip
                  rw [Bool.not_eq_true] at h2
                  rw [h2]
                  refine lexQ rfl rfl rfl rfl (fun H hM => (yMove (v := .bool true) rfl rfl)) ?_
                  refine lexU rfl rfl rfl ?_
                  refine lexU rfl rfl rfl ?_
                  refine lexU rfl rfl rfl ?_
                  -- tail
                  refine lexNil0 rfl (fun hM => ?_)
                  refine seqU rfl rfl ?_
                  refine seqQ rfl rfl (yPickT (v := .bool _) rfl rfl rfl) ?_
                  refine seqQ rfl rfl (yAssign (v := .bool _) rfl rfl) ?_
                  refine seqNil ?_
                  refine hF14 _ _ ?_; clear hF14
                  -- ret
                  refine wpRet (fin1 (v := .bool _) rfl rfl ?_)
                  exact ⟨rfl, hE.trans kE⟩
              · skip
                rw [Bool.not_eq_true] at h1
                rw [h1]
                refine lexQ rfl rfl rfl rfl (fun H hM => (yPickT (v := .bool _) rfl rfl rfl)) ?_
                refine lexQ rfl rfl rfl rfl (fun H hM => (yMove (v := .bool false) rfl rfl)) ?_
                refine lexU rfl rfl rfl ?_
                refine lexU rfl rfl rfl ?_
                refine lexU rfl rfl rfl ?_
                -- tail
                refine lexNil0 rfl (fun hM => ?_)
                refine seqU rfl rfl ?_
                refine seqU rfl rfl ?_
                refine seqQ rfl rfl (yPickF (v := .bool _) rfl rfl rfl) ?_
                refine seqQ rfl rfl (yAssign (v := .bool _) rfl rfl) ?_
                refine seqNil ?_
                refine hF13 _ _ ?_; clear hF13
                refine wpSeq fun F15 hF15 => ?_
                refine wpRegionD Try_mixed [.q, .q, .q, .q, .q, .e, .e, .q, .q] 6 [0, 1, 3, 7, 7, 23, 63, 127, 255] [] (by kernel_rfl) _ rfl [0, 1, 2, 3, 4, 5] rfl (by simp) ?_
                refine lexQ rfl rfl rfl rfl (fun H hM => (yMove (v := .bool _) rfl rfl)) ?_
                refine lexQ rfl rfl rfl rfl (fun H hM => (yNot rfl rfl)) ?_
                refine lexQ rfl rfl rfl rfl (fun H hM => (yMove (v := .bool true) rfl rfl)) ?_
                refine lexU rfl rfl rfl ?_
                refine lexU rfl rfl rfl ?_
                refine lexU rfl rfl rfl ?_
                -- tail
                refine lexNil0 rfl (fun hM => ?_)
                refine seqU rfl rfl ?_
                refine seqQ rfl rfl (yPickT (v := .bool _) rfl rfl rfl) ?_
                refine seqQ rfl rfl (yAssign (v := .bool _) rfl rfl) ?_
                refine seqNil ?_
                refine hF15 _ _ ?_; clear hF15
                -- ret
                refine wpRet (fin1 (v := .bool _) rfl rfl ?_)
                exact ⟨rfl, hE.trans kE⟩
            · skip
              rw [decide_eq_false hn]
              refine lexQ rfl rfl rfl rfl (fun H hM => (yMove (v := .bool false) rfl rfl)) ?_
              refine lexU rfl rfl rfl ?_
              refine lexU rfl rfl rfl ?_
              refine lexU rfl rfl rfl ?_
              refine lexU rfl rfl rfl ?_
              refine lexU rfl rfl rfl ?_
              refine lexQ rfl rfl rfl rfl (fun H hM => (yPickF (v := .bool _) rfl rfl rfl)) ?_
              refine lexQ rfl rfl rfl rfl (fun H hM => (yMove (v := .bool false) rfl rfl)) ?_
              refine lexU rfl rfl rfl ?_
              refine lexU rfl rfl rfl ?_
              refine lexU rfl rfl rfl ?_
              -- tail
              refine lexNil0 rfl (fun hM => ?_)
              refine seqU rfl rfl ?_
              refine seqU rfl rfl ?_
              refine seqQ rfl rfl (yPickF (v := .bool _) rfl rfl rfl) ?_
              refine seqQ rfl rfl (yAssign (v := .bool _) rfl rfl) ?_
              refine seqNil ?_
              refine hF13 _ _ ?_; clear hF13
              refine wpSeq fun F16 hF16 => ?_
              refine wpRegionD Try_mixed [.q, .q, .q, .q, .q, .e, .e, .q, .q] 6 [0, 1, 3, 7, 7, 23, 63, 127, 255] [] (by kernel_rfl) _ rfl [0, 1, 2, 3, 4, 5] rfl (by simp) ?_
              refine lexQ rfl rfl rfl rfl (fun H hM => (yMove (v := .bool _) rfl rfl)) ?_
              refine lexQ rfl rfl rfl rfl (fun H hM => (yNot rfl rfl)) ?_
              refine lexQ rfl rfl rfl rfl (fun H hM => (yMove (v := .bool true) rfl rfl)) ?_
              refine lexU rfl rfl rfl ?_
              refine lexU rfl rfl rfl ?_
              refine lexU rfl rfl rfl ?_
              -- tail
              refine lexNil0 rfl (fun hM => ?_)
              refine seqU rfl rfl ?_
              refine seqQ rfl rfl (yPickT (v := .bool _) rfl rfl rfl) ?_
              refine seqQ rfl rfl (yAssign (v := .bool _) rfl rfl) ?_
              refine seqNil ?_
              refine hF16 _ _ ?_; clear hF16
              -- ret
              refine wpRet (fin1 (v := .bool _) rfl rfl ?_)
              exact ⟨rfl, hE.trans kE⟩
          · skip
            rw [decide_eq_false hc]
            refine lexQ rfl rfl rfl rfl (fun H hM => (yMove (v := .bool false) rfl rfl)) ?_
            refine lexU rfl rfl rfl ?_
            refine lexU rfl rfl rfl ?_
            refine lexU rfl rfl rfl ?_
            refine lexU rfl rfl rfl ?_
            refine lexU rfl rfl rfl ?_
            refine lexQ rfl rfl rfl rfl (fun H hM => (yPickF (v := .bool _) rfl rfl rfl)) ?_
            refine lexQ rfl rfl rfl rfl (fun H hM => (yMove (v := .bool false) rfl rfl)) ?_
            refine lexU rfl rfl rfl ?_
            refine lexU rfl rfl rfl ?_
            refine lexU rfl rfl rfl ?_
            refine lexU rfl rfl rfl ?_
            refine lexU rfl rfl rfl ?_
            refine lexQ rfl rfl rfl rfl (fun H hM => (yPickF (v := .bool _) rfl rfl rfl)) ?_
            refine lexQ rfl rfl rfl rfl (fun H hM => (yMove (v := .bool false) rfl rfl)) ?_
            refine lexU rfl rfl rfl ?_
            refine lexU rfl rfl rfl ?_
            refine lexU rfl rfl rfl ?_
            -- tail
            refine lexNil0 rfl (fun hM => ?_)
            refine seqU rfl rfl ?_
            refine seqU rfl rfl ?_
            refine seqQ rfl rfl (yPickF (v := .bool _) rfl rfl rfl) ?_
            refine seqQ rfl rfl (yAssign (v := .bool _) rfl rfl) ?_
            refine seqNil ?_
            refine hF13 _ _ ?_; clear hF13
            refine wpSeq fun F17 hF17 => ?_
            refine wpRegionD Try_mixed [.q, .q, .q, .q, .q, .e, .e, .q, .q] 6 [0, 1, 3, 7, 7, 23, 63, 127, 255] [] (by kernel_rfl) _ rfl [0, 1, 2, 3, 4, 5] rfl (by simp) ?_
            refine lexQ rfl rfl rfl rfl (fun H hM => (yMove (v := .bool _) rfl rfl)) ?_
            refine lexQ rfl rfl rfl rfl (fun H hM => (yNot rfl rfl)) ?_
            refine lexQ rfl rfl rfl rfl (fun H hM => (yMove (v := .bool true) rfl rfl)) ?_
            refine lexU rfl rfl rfl ?_
            refine lexU rfl rfl rfl ?_
            refine lexU rfl rfl rfl ?_
            -- tail
            refine lexNil0 rfl (fun hM => ?_)
            refine seqU rfl rfl ?_
            refine seqQ rfl rfl (yPickT (v := .bool _) rfl rfl rfl) ?_
            refine seqQ rfl rfl (yAssign (v := .bool _) rfl rfl) ?_
            refine seqNil ?_
            refine hF17 _ _ ?_; clear hF17
            -- ret
            refine wpRet (fin1 (v := .bool _) rfl rfl ?_)
            exact ⟨rfl, hE.trans kE⟩
        · have ej1 : ej = 1 := by rw [joinZ_no hb] at hjz; exact (congrArg Prod.snd hjz).symm
          have ew1 : ew = 1 := by rw [widZ_no hb] at hwz; exact (congrArg Prod.snd hwz).symm
          subst ej1 ew1
          refine seqQ rfl rfl (yAssign (v := .int _ _) rfl rfl) ?_
          refine seqNil ?_
          refine hF8 _ _ ?_; clear hF8
          refine wpSeq fun F18 hF18 => ?_
          refine wpSeq fun F19 hF19 => ?_
          refine wpRegion ?_
          refine seqQ rfl rfl (yMove (v := .int _ _) rfl rfl) ?_
          refine seqQ rfl rfl (yNeq rfl rfl rfl) ?_
          refine seqQ rfl rfl (yMove (v := .bool true) rfl rfl) ?_
          refine seqU rfl rfl ?_
          refine seqU rfl rfl ?_
          refine seqQ rfl rfl (yPickT (v := .bool _) rfl rfl rfl) ?_
          refine seqNil ?_
          refine hF19 _ _ ?_; clear hF19
          -- if t51
          refine wpT rfl ?_
          refine wpSeq fun F20 hF20 => ?_
          refine wpRegion ?_
          refine seqQ rfl rfl (yMove (v := .int _ _) rfl rfl) ?_
          refine seqQ rfl rfl (yEql rfl rfl rfl) ?_
          refine seqQ rfl rfl (yMove (v := .bool true) rfl rfl) ?_
          refine seqQ rfl rfl (yMove (v := .int _ _) rfl rfl) ?_
          refine seqQ rfl rfl (yEql rfl rfl rfl) ?_
          refine seqQ rfl rfl (yPickT (v := .bool _) rfl rfl rfl) ?_
          refine seqQ rfl rfl (yAssign (v := .bool _) rfl rfl) ?_
          refine seqNil ?_
          refine hF20 _ _ ?_; clear hF20
          -- ret
          refine wpRet (fin1 (v := .bool _) rfl rfl ?_)
          exact ⟨rfl, hE⟩
set_option maxRecDepth 100000 in
set_option maxRecDepth 100000 in
theorem zoneLeast_lifted (os : Os) (started : os.Started) (H : Type) (enc : TypeId × Value → H) :
    ReturnsInHanded {} Try.checked os 11 .any (Rows.zoneLeastSpec.pre6 enc Try.prog Try.f11 Rows.zoneLeastRow.domain false) (Rows.zoneLeastSpec.post enc Try.prog Try.f11 false true false false) := by
  refine law_lifted started Rows.zoneLeastSpec rfl (by kernel_rfl) Try.func11 rfl
    (fun ds h => by match ds, h with | [_, _, _], _ => rfl) (of_decide_eq_true (by kernel_rfl))
    (ChangeSpec.witness6 (enc := enc) (C := Try.checked) false ⟨#[], #[.agg #[.int .i64 0, .slice none 0 0], .agg #[.int .i64 0, .slice none 0 0], .agg #[.int .i64 0, .slice none 0 0]], []⟩ 8 (by kernel_rfl) (by kernel_rfl) (by kernel_rfl) (by kernel_rfl)) ?_
  intro W base args ds p hval hA
  rw [Try.params11] at hA hval
  obtain ⟨v0, v1, v2, d0, d1, d2, p0, p1, p2, rfl, rfl, rfl, h0, h1, h2⟩ := trodAll_three hA
  have g0 := hval 0 _ v0 rfl rfl
  have g1 := hval 1 _ v1 rfl rfl
  have g2 := hval 2 _ v2 rfl rfl
  obtain ⟨⟨a, A, ca⟩, rfl, kA, -⟩ := (opn_zn W).agg Try.underlying24 rfl g0 h0
  obtain ⟨⟨b, B, cb⟩, rfl, kB, -⟩ := (opn_zn W).agg Try.underlying24 rfl g1 h1
  obtain ⟨⟨c, C, cc⟩, rfl, kC, -⟩ := (opn_zn W).agg Try.underlying24 rfl g2 h2
  exact zLeast_walk a b c A B C ca cb cc W.heap kA kB kC
set_option maxRecDepth 100000 in
theorem zoneLeast_holds : Rows.ZoneLeastSaid :=
  OpenClaim.holds_of_wide 11 Try.f11 rfl rfl rfl rfl rfl rfl rfl ⟨rfl, rfl, rfl, rfl, rfl⟩ rfl rfl rfl rfl rfl (by kernel_rfl) Try.func11 (by kernel_rfl)
    (of_decide_eq_true (by kernel_rfl)) (by unfold Func.isWrapper; first | (rw [if_pos (by decide +kernel)]; kernel_rfl) | (rw [if_neg (by decide +kernel)]; exact ⟨rfl, rfl⟩))
    (fun os started H enc _ => zoneLeast_lifted os started H enc)
end Go.Proofs.Ytjkbkmbblidipaa
