/- ZoneAdd: the walk and the row: New, Valid, Add and Implies return the specified results for any zone of up to 8 variables, any bound and any number. Conditions: none beyond the statement's. -/
import Derived.Test.YtjkbkmbblidipaaZ10
import Derived.Test.YtjkbkmbblidipaaZA
namespace Go.Proofs.Ytjkbkmbblidipaa
open Go.ChangeShapes Go.WideShapes Go.ChangeAt Go.RowKit Go.Deep

set_option maxRecDepth 100000 in
theorem addZ_len {z : Zn} {X Y C : Int} (hl : z.b.length ≤ 1000000000) : (addZ z X Y C).1.b.length ≤ 1000000000 := by
  unfold addZ
  split
  · show (0 : Nat) ≤ _; omega
  · split
    · show (0 : Nat) ≤ _; omega
    · show (addL _ _ _).length ≤ _
      unfold addL
      rw [List.length_set]
      exact hl
set_option maxRecDepth 100000 in
theorem newF_len (n : Int) : (newF n).1.b.length ≤ 1000000000 := by
  unfold newF
  split
  · show (0 : Nat) ≤ _; omega
  · show (fulL (n + 1).toNat).length ≤ _
    rw [fulL_len]
    have := mul25 (a := (n + 1).toNat) (b := (n + 1).toNat) (by omega) (by omega)
    omega
set_option maxRecDepth 100000 in
theorem zAdd_walk (z : Zn) (X Y C n : Int) (A : Option Addr) (ca : Nat) (H : Heap) (hA : Rd eInt H A z.b) (hn : In64 n) :
    CallsH Try.prog 4 [.agg (znC z A ca).toArray, .agg [.int .i64 X, .int .i64 Y, .int .i64 C].toArray, .int .i64 n] H fun v H' => v = .bool true ∧ Ext H H' := by
  obtain ⟨⟨za, ea⟩, haz⟩ : ∃ r, addZ z X Y C = r := ⟨_, rfl⟩
  obtain ⟨⟨zn, en⟩, hnz⟩ : ∃ r, newF n = r := ⟨_, rfl⟩
  have hnl := newF_len n
  rw [hnz] at hnl
  dsimp only at hnl
  refine callsH_of Try.func4 rfl Try.ntmps4 (Nat.le_of_ble_eq_true rfl) ?_
  refine wpSeq fun F1 hF1 => ?_
  refine wpRegion ?_
  refine seqN rfl rfl (nBoxA rfl rfl) (fun g3 H3 hx3 hB3 hg3 hl3 => ?_)
  refine seqN rfl rfl (nBoxA rfl rfl) (fun g4 H4 hx4 hB4 hg4 hl4 => ?_)
  refine seqQ rfl rfl (yAssign (v := .bool _) rfl rfl) ?_
  refine seqNil ?_
  refine hF1 _ _ ?_; clear hF1
  refine wpSeq fun F2 hF2 => ?_
  refine wpSeq fun F3 hF3 => ?_
  refine wpRegion ?_
  -- e slot 15: call F12<farandole/farandolelaw13.awake> 
  refine seqE rfl rfl (stepCall rfl Try.call12 rfl ?_)
  refine (awake_c _).mono ?_
  rintro v Ha ⟨rfl, hxa⟩
  refine seqQ rfl rfl (yNot rfl rfl) ?_
  refine seqQ rfl rfl (yMove (v := .bool false) rfl rfl) ?_
  refine seqQ rfl rfl (yLoadB ((hB3.ext hx4).ext hxa) rfl Try.underlying24 rfl Try.sizeOf24 rfl) ?_
  -- e slot 19: call F13<farandole/farandoleref13.Few> t18
  refine seqE rfl rfl (stepCall rfl Try.call13 rfl ?_)
  refine (few_c z A ca _).mono ?_
  rintro v Hf ⟨rfl, hxf⟩
  have hE := ((hx3.trans hx4).trans hxa).trans hxf
  replace hB3 := ((hB3.ext hx4).ext hxa).ext hxf
  replace hB4 := (hB4.ext hxa).ext hxf
  clear hx3 hx4 hxa hxf
  refine seqQ rfl rfl (yNot rfl rfl) ?_
  refine seqQ rfl rfl (yPickF (v := .bool _) rfl rfl rfl) ?_
  refine seqNil ?_
  refine hF3 _ _ ?_; clear hF3
  -- if t21
  refine wpCond rfl (fun hf => ?_) (fun hf => ?_)
  · skip
    refine wpSeq fun F4 hF4 => ?_
    refine wpRegion ?_
    -- e slot 22: call F12<farandole/farandolelaw13.awake> 
    refine seqE rfl rfl (stepCall rfl Try.call12 rfl ?_)
    refine (awake_c _).mono ?_
    rintro v Ha ⟨rfl, hxa⟩
    refine seqQ rfl rfl (yAssign (v := .bool _) rfl rfl) ?_
    refine seqNil ?_
    refine hF4 _ _ ?_; clear hF4
    -- ret
    refine wpRet (fin1 (v := .bool _) rfl rfl ?_)
    exact ⟨rfl, hE.trans hxa⟩
  · skip
    have hf : z.N ≤ 8 ∧ z.b.length ≤ 100 := by simpa using hf
    obtain ⟨h8, hl⟩ := hf
    have hal := addZ_len (z := z) (X := X) (Y := Y) (C := C) (by omega)
    rw [haz] at hal
    dsimp only at hal
    refine wpSkip ?_
    refine hF2 _ _ ?_; clear hF2
    refine wpSeq fun F5 hF5 => ?_
    refine wpRegionD Try_mixed [.q, .e, .q, .e, .q, .q, .q, .n, .e, .q] 9 [0, 1, 0, 7, 15, 31, 31, 0, 191, 511] [] (by kernel_rfl) _ rfl [0, 1, 2, 3, 4, 5, 6, 7, 8] rfl (by simp) ?_
    refine lexQ rfl rfl rfl rfl (fun H hM => (yLoadB (hB3.ext hM.ext) rfl Try.underlying24 rfl Try.sizeOf24 rfl)) ?_
    -- e slot 25: call F15<farandole/farandolelaw13.own> t24
    refine lexX rfl rfl rfl rfl (by simp) (fun H25 hX25 hM25 hN25 => stepCall rfl Try.call15 rfl ?_)
    refine (own_c z A ca _).mono ?_
    rintro v H1 ⟨rfl, hx1⟩
    refine ⟨hx1, fun _ => ?_⟩
    refine lexQ rfl rfl rfl rfl (fun H hM => (yLoadB (hB4.ext hM.ext) rfl Try.underlying43 rfl Try.sizeOf43 rfl)) ?_
    -- e slot 27: call F23<farandole/zone.Add> t25 t26
    refine lexE rfl rfl rfl rfl (fun H27 hX27 hM27 hN27 => stepCall rfl Try.call23 rfl ?_)
    have hc := add_c z X Y C A ca H27 ((((hA.ext hE).ext hX25).ext hx1).ext hX27)
    rw [haz] at hc
    dsimp only at hc
    refine hc.mono ?_
    rintro v H2 ⟨hx2, u, rfl, A1, c1, rfl, ho1⟩
    refine lexFr (F := (Value.slice A1 za.b.length c1).ownBlock.toList) hx2 (fun b hb => by rw [Option.mem_toList] at hb; exact ho1.lt b hb) (by simp) ?_
    refine lexQ rfl rfl rfl rfl (fun H hM => (yMove (v := .tuple _) rfl rfl)) ?_
    refine lexQ rfl rfl rfl rfl (fun H hM => (yExtract (v := .agg _) rfl rfl rfl)) ?_
    refine lexQ rfl rfl rfl rfl (fun H hM => (yExtract (v := .int _ _) rfl rfl rfl)) ?_
    refine lexNB rfl rfl rfl rfl (nAlloc rfl Try.zeroValue27 rfl) (fun g7 hg7 hne7 => ?_)
    -- e slot None: store T27 t7 t28
    refine lexES0 rfl rfl rfl rfl (by first | assumption | omega) (by first | (dsimp only; rfl) | kernel_rfl) (by simp) (fun Hs hXs hMs hBs hFs => stepStoreB rfl (by kernel_rfl) rfl rfl rfl hBs rfl ?_)
    intro H5 hB5 hK5
    have n7 : ∀ b, (Value.slice A1 za.b.length c1).ownBlock = some b → b ≠ g7 := fun b hb e => hFs (List.mem_append.2 (.inl (by rw [Option.mem_toList, hb, e])))
    have xs := hXs
    refine ⟨hK5, fun b hb => by rw [List.append_nil, Option.mem_toList] at hb; have := (ho1.lt b hb).2; have := xs.size; omega, ?_⟩
    -- tail
    refine lexNil (fun Hg hXg hMg hNg => ?_)
    have x5 : Ext Hf Hg := (((((hX25.trans hx1).trans hX27).trans hx2).trans xs).mine hK5 (by simp; omega)).trans hXg
    replace hB5 := hB5.ext hXg
    have rda := (Own.rd (((ho1.ext xs).keep hK5 (fun b hb => by simpa using n7 b hb)).ext hXg)).2
    replace hB3 := hB3.ext x5
    replace hB4 := hB4.ext x5
    replace hE := hE.trans x5
    clear hX25 hx1 hX27 hx2 hXg hK5 x5 ho1 hc hMg hNg n7
    refine seqQ rfl rfl (yAssign (v := .int _ _) rfl rfl) ?_
    refine seqNil ?_
    refine hF5 _ _ ?_; clear hF5
    refine wpSeq fun F6 hF6 => ?_
    refine wpRegion ?_
    refine seqQ rfl rfl (yLoadB hB3 rfl Try.underlying24 rfl Try.sizeOf24 rfl) ?_
    refine seqQ rfl rfl (yLoadB hB4 rfl Try.underlying43 rfl Try.sizeOf43 rfl) ?_
    -- e slot 33: call F24<farandole/farandoleref13.Add> t31 t32
    refine seqE rfl rfl (stepCall rfl Try.call24 rfl ?_)
    have hc := rAdd_c z X Y C A ca _ (hA.ext hE)
    rw [haz] at hc
    dsimp only at hc
    refine hc.mono ?_
    rintro v H6 ⟨hx6, u, rfl, A2, c2, rfl, ho2⟩
    have r2 := (Own.rd ho2).2
    refine seqQ rfl rfl (yMove (v := .tuple _) rfl rfl) ?_
    refine seqQ rfl rfl (yExtract (v := .agg _) rfl rfl rfl) ?_
    refine seqQ rfl rfl (yExtract (v := .int _ _) rfl rfl rfl) ?_
    refine seqN rfl rfl (nAlloc rfl Try.zeroValue24 rfl) (fun g9 H9 hx9 hB9 hg9 hl9 => ?_)
    -- e slot None: store T24 t9 t34
    refine seqE0 rfl rfl (stepStoreB rfl (by kernel_rfl) rfl rfl rfl hB9 rfl ?_)
    intro H8 hB8 hK8
    have x8 := afterStore hx6 hx9 hg9 hK8
    have rda2 := rdStore r2 hx9 hg9 hK8
    replace hB3 := hB3.ext x8
    replace hB4 := hB4.ext x8
    replace hB5 := hB5.ext x8
    replace rda := rda.ext x8
    replace hE := hE.trans x8
    clear hx6 hx9 hK8 x8 ho2 r2 hc hB9
    refine seqQ rfl rfl (yAssign (v := .int _ _) rfl rfl) ?_
    refine seqNil ?_
    refine hF6 _ _ ?_; clear hF6
    refine wpSeq fun F7 hF7 => ?_
    refine wpRegion ?_
    refine seqQ rfl rfl (yMove (v := .int _ _) rfl rfl) ?_
    -- e slot 38: call F25<farandole/zone.New> t37
    refine seqE rfl rfl (stepCall rfl Try.call25 rfl ?_)
    have hc := new_c n H8 hn
    rw [hnz] at hc
    dsimp only at hc
    refine hc.mono ?_
    rintro v H9 ⟨hx9, u, rfl, A3, c3, rfl, ho3⟩
    have r3 := (Own.rd ho3).2
    refine seqQ rfl rfl (yMove (v := .tuple _) rfl rfl) ?_
    refine seqQ rfl rfl (yExtract (v := .agg _) rfl rfl rfl) ?_
    refine seqQ rfl rfl (yExtract (v := .int _ _) rfl rfl rfl) ?_
    refine seqN rfl rfl (nAlloc rfl Try.zeroValue27 rfl) (fun g11 H11 hx11 hB11 hg11 hl11 => ?_)
    -- e slot None: store T27 t11 t39
    refine seqE0 rfl rfl (stepStoreB rfl (by kernel_rfl) rfl rfl rfl hB11 rfl ?_)
    intro H10 hB10 hK10
    have x10 := afterStore hx9 hx11 hg11 hK10
    have rdn := rdStore r3 hx11 hg11 hK10
    replace hB3 := hB3.ext x10
    replace hB4 := hB4.ext x10
    replace hB5 := hB5.ext x10
    replace hB8 := hB8.ext x10
    replace rda := rda.ext x10
    replace rda2 := rda2.ext x10
    replace hE := hE.trans x10
    clear hx9 hx11 hK10 x10 ho3 r3 hc hB11
    refine seqQ rfl rfl (yAssign (v := .int _ _) rfl rfl) ?_
    refine seqNil ?_
    refine hF7 _ _ ?_; clear hF7
    refine wpSeq fun F8 hF8 => ?_
    refine wpRegion ?_
    refine seqQ rfl rfl (yMove (v := .int _ _) rfl rfl) ?_
    -- e slot 43: call F26<farandole/farandoleref13.New> t42
    refine seqE rfl rfl (stepCall rfl Try.call26 rfl ?_)
    have hc := rNew_c n H10 hn
    rw [hnz] at hc
    dsimp only at hc
    refine hc.mono ?_
    rintro v H11 ⟨hx11, u, rfl, A4, c4, rfl, ho4⟩
    have r4 := (Own.rd ho4).2
    refine seqQ rfl rfl (yMove (v := .tuple _) rfl rfl) ?_
    refine seqQ rfl rfl (yExtract (v := .agg _) rfl rfl rfl) ?_
    refine seqQ rfl rfl (yExtract (v := .int _ _) rfl rfl rfl) ?_
    refine seqN rfl rfl (nAlloc rfl Try.zeroValue24 rfl) (fun g13 H13 hx13 hB13 hg13 hl13 => ?_)
    -- e slot None: store T24 t13 t44
    refine seqE0 rfl rfl (stepStoreB rfl (by kernel_rfl) rfl rfl rfl hB13 rfl ?_)
    intro H12 hB12 hK12
    have x12 := afterStore hx11 hx13 hg13 hK12
    have rdn2 := rdStore r4 hx13 hg13 hK12
    replace hB3 := hB3.ext x12
    replace hB4 := hB4.ext x12
    replace hB5 := hB5.ext x12
    replace hB8 := hB8.ext x12
    replace hB10 := hB10.ext x12
    replace rda := rda.ext x12
    replace rda2 := rda2.ext x12
    replace rdn := rdn.ext x12
    replace hE := hE.trans x12
    clear hx11 hx13 hK12 x12 ho4 r4 hc hB13
    refine seqQ rfl rfl (yAssign (v := .int _ _) rfl rfl) ?_
    refine seqNil ?_
    refine hF8 _ _ ?_; clear hF8
    refine wpSeq fun F9 hF9 => ?_
    refine wpRegionD Try_mixed [.q, .q, .q, .q, .q, .e, .q, .e, .q, .q, .q, .q, .q, .q, .q, .q, .e, .q, .e, .q, .q, .q, .e, .e, .q, .e, .q, .q, .q, .q, .e, .q, .e, .q, .q, .e, .q, .q, .q] 35 [0, 0, 3, 7, 15, 31, 15, 127, 255, 511, 1023, 1023, 4095, 8191, 16383, 32767, 65535, 32767, 262143, 524287, 1048575, 2097151, 4194303, 8388607, 2097151, 33554431, 67108863, 134217727, 268435455, 536870911, 1073741823, 536870911, 4294967295, 536870911, 536870911, 34359738367, 68719476735, 137438953471, 274877906943] [] (by kernel_rfl) _ rfl [0, 1, 2, 3, 4, 5, 6, 7, 8, 9, 10, 11, 12, 13, 14, 15, 16, 17, 18, 19, 20, 21, 22, 23, 24, 25, 26, 27, 28, 29, 30, 31, 32, 33, 34] rfl (by simp) ?_
    refine lexQ rfl rfl rfl rfl (fun H hM => (yMove (v := .int _ _) rfl rfl)) ?_
    refine lexQ rfl rfl rfl rfl (fun H hM => (yMove (v := .int _ _) rfl rfl)) ?_
    refine lexQ rfl rfl rfl rfl (fun H hM => (yEql rfl rfl rfl)) ?_
    -- guard t49
    rw [eqI]
    refine lexQ rfl rfl rfl rfl (fun H hM => (yMove (v := .bool true) rfl rfl)) ?_
    refine lexQ rfl rfl rfl rfl (fun H hM => (yLoadB (hB5.ext hM.ext) rfl Try.underlying27 rfl Try.sizeOf27 rfl)) ?_
    -- e slot 51: call F22<farandole/farandolelaw13.theirs> t50
    refine lexX0 rfl rfl rfl rfl rfl (by simp) (fun hM51 => stepCall rfl Try.call22 rfl ?_)
    refine (theirs_c za A1 c1 _).mono ?_
    rintro v K1 ⟨rfl, k1⟩
    refine ⟨k1, fun _ => ?_⟩
    refine lexQ rfl rfl rfl rfl (fun H hM => (yLoadB (hB8.ext hM.ext) rfl Try.underlying24 rfl Try.sizeOf24 rfl)) ?_
    -- e slot 53: call F21<farandole/farandoleref13.Same> t51 t52
    refine lexX0 rfl rfl rfl rfl rfl (by simp) (fun hM53 => stepCall rfl Try.call21 rfl ?_)
    refine (same_c za za A1 A2 c1 c2 _ (rda.ext k1) (rda2.ext k1) hal).mono ?_
    rintro v K2 ⟨rfl, k2⟩
    refine ⟨k2, fun _ => ?_⟩
    rw [sameB]
    refine lexQ rfl rfl rfl rfl (fun H hM => (yPickT (v := .bool _) rfl rfl rfl)) ?_
    refine lexQ rfl rfl rfl rfl (fun H hM => (yMove (v := .bool true) rfl rfl)) ?_
    refine lexQ rfl rfl rfl rfl (fun H hM => (yMove (v := .int _ _) rfl rfl)) ?_
    refine lexQ rfl rfl rfl rfl (fun H hM => (yMove (v := .int _ _) rfl rfl)) ?_
    refine lexQ rfl rfl rfl rfl (fun H hM => (yEql rfl rfl rfl)) ?_
    refine lexQ rfl rfl rfl rfl (fun H hM => (yPickT (v := .bool _) rfl rfl rfl)) ?_
    -- guard t60
    rw [eqI]
    refine lexQ rfl rfl rfl rfl (fun H hM => (yMove (v := .bool true) rfl rfl)) ?_
    refine lexQ rfl rfl rfl rfl (fun H hM => (yLoadB (hB10.ext hM.ext) rfl Try.underlying27 rfl Try.sizeOf27 rfl)) ?_
    -- e slot 62: call F22<farandole/farandolelaw13.theirs> t61
    refine lexX0 rfl rfl rfl rfl rfl (by simp) (fun hM62 => stepCall rfl Try.call22 rfl ?_)
    refine (theirs_c zn A3 c3 _).mono ?_
    rintro v K3 ⟨rfl, k3⟩
    refine ⟨k3, fun _ => ?_⟩
    refine lexQ rfl rfl rfl rfl (fun H hM => (yLoadB (hB12.ext hM.ext) rfl Try.underlying24 rfl Try.sizeOf24 rfl)) ?_
    -- e slot 64: call F21<farandole/farandoleref13.Same> t62 t63
    have kE := (k1.trans k2).trans k3
    refine lexX0 rfl rfl rfl rfl rfl (by simp) (fun hM64 => stepCall rfl Try.call21 rfl ?_)
    refine (same_c zn zn A3 A4 c3 c4 _ (rdn.ext kE) (rdn2.ext kE) hnl).mono ?_
    rintro v K4 ⟨rfl, k4⟩
    refine ⟨k4, fun _ => ?_⟩
    rw [sameB]
    replace kE := kE.trans k4
    refine lexQ rfl rfl rfl rfl (fun H hM => (yPickT (v := .bool _) rfl rfl rfl)) ?_
    refine lexQ rfl rfl rfl rfl (fun H hM => (yMove (v := .bool true) rfl rfl)) ?_
    refine lexQ rfl rfl rfl rfl (fun H hM => (yLoadB (hB3.ext hM.ext) rfl Try.underlying24 rfl Try.sizeOf24 rfl)) ?_
    -- e slot 68: call F15<farandole/farandolelaw13.own> t67
    refine lexX0 rfl rfl rfl rfl rfl (by simp) (fun hM68 => stepCall rfl Try.call15 rfl ?_)
    refine (own_c z A ca _).mono ?_
    rintro v K5 ⟨rfl, k5⟩
    refine ⟨k5, fun _ => ?_⟩
    replace kE := kE.trans k5
    -- e slot 69: call F27<farandole/zone.Valid> t68
    refine lexX0 rfl rfl rfl rfl rfl (by simp) (fun hM69 => stepCall rfl Try.call27 rfl ?_)
    refine (zvalid_c z A ca _ ((hA.ext hE).ext kE)).mono ?_
    rintro v K6 ⟨rfl, k6⟩
    refine ⟨k6, fun _ => ?_⟩
    replace kE := kE.trans k6
    refine lexQ rfl rfl rfl rfl (fun H hM => (yLoadB (hB3.ext hM.ext) rfl Try.underlying24 rfl Try.sizeOf24 rfl)) ?_
    -- e slot 71: call F28<farandole/farandoleref13.Valid> t70
    refine lexX0 rfl rfl rfl rfl rfl (by simp) (fun hM71 => stepCall rfl Try.call28 rfl ?_)
    refine (rvalid_c z A ca _ ((hA.ext hE).ext kE)).mono ?_
    rintro v K7 ⟨rfl, k7⟩
    refine ⟨k7, fun _ => ?_⟩
    replace kE := kE.trans k7
    refine lexQ rfl rfl rfl rfl (fun H hM => (yEqlB rfl Try.underlying4 rfl rfl)) ?_
    refine lexQ rfl rfl rfl rfl (fun H hM => (yPickT (v := .bool _) rfl rfl rfl)) ?_
    -- guard t74
    rw [eqB]
    refine lexQ rfl rfl rfl rfl (fun H hM => (yMove (v := .bool true) rfl rfl)) ?_
    refine lexQ rfl rfl rfl rfl (fun H hM => (yLoadB (hB3.ext hM.ext) rfl Try.underlying24 rfl Try.sizeOf24 rfl)) ?_
    -- e slot 76: call F15<farandole/farandolelaw13.own> t75
    refine lexX0 rfl rfl rfl rfl rfl (by simp) (fun hM76 => stepCall rfl Try.call15 rfl ?_)
    refine (own_c z A ca _).mono ?_
    rintro v K8 ⟨rfl, k8⟩
    refine ⟨k8, fun _ => ?_⟩
    replace kE := kE.trans k8
    refine lexQ rfl rfl rfl rfl (fun H hM => (yLoadB (hB4.ext hM.ext) rfl Try.underlying43 rfl Try.sizeOf43 rfl)) ?_
    -- e slot 78: call F29<farandole/zone.Implies> t76 t77
    refine lexX0 rfl rfl rfl rfl rfl (by simp) (fun hM78 => stepCall rfl Try.call29 rfl ?_)
    refine (implies_c z X Y C A ca _ ((hA.ext hE).ext kE) h8).mono ?_
    rintro v K9 ⟨k9, rfl⟩
    refine ⟨k9, fun _ => ?_⟩
    replace kE := kE.trans k9
    refine lexQ rfl rfl rfl rfl (fun H hM => (yLoadB (hB3.ext hM.ext) rfl Try.underlying24 rfl Try.sizeOf24 rfl)) ?_
    refine lexQ rfl rfl rfl rfl (fun H hM => (yLoadB (hB4.ext hM.ext) rfl Try.underlying43 rfl Try.sizeOf43 rfl)) ?_
    -- tail
    refine lexNil0 rfl (fun hM => ?_)
    -- e slot 81: call F30<farandole/farandoleref13.Implies> t79 t80
    refine seqE rfl rfl (stepCall rfl Try.call30 rfl ?_)
    refine (rImplies_c z X Y C A ca _ ((hA.ext hE).ext kE) h8).mono ?_
    rintro v K10 ⟨k10, rfl⟩
    replace kE := kE.trans k10
    refine seqQ rfl rfl (yEqlB rfl Try.underlying4 rfl rfl) ?_
    refine seqQ rfl rfl (yPickT (v := .bool _) rfl rfl rfl) ?_
    refine seqQ rfl rfl (yAssign (v := .bool _) rfl rfl) ?_
    refine seqNil ?_
    refine hF9 _ _ ?_; clear hF9
    -- ret
    refine wpRet (fin1 (v := .bool _) rfl rfl ?_)
    exact ⟨by rw [eqB], hE.trans kE⟩
set_option maxRecDepth 100000 in
theorem opn_diff (W : World) : Opn Try.prog W 43 3 (fun x : Int × Int × Int => [.int .i64 x.1, .int .i64 x.2.1, .int .i64 x.2.2]) (fun x => In64 x.1 ∧ In64 x.2.1 ∧ In64 x.2.2) :=
  (opn_struct Try.underlying43 (by kernel_rfl) (opnF_cons rfl (opn_int Try.underlying3 (by kernel_rfl)) (opnF_cons rfl (opn_int Try.underlying3 (by kernel_rfl)) (opnF_cons rfl (opn_int Try.underlying3 (by kernel_rfl)) (opnF_nil rfl))))).map
    (fun a : Int × Int × Int × Unit => (a.1, a.2.1, a.2.2.1)) (fun _ => rfl) (fun a ha => ⟨ha.1, ha.2.1, ha.2.2.1⟩)
set_option maxRecDepth 100000 in
set_option maxRecDepth 100000 in
theorem zoneAdd_lifted (os : Os) (started : os.Started) (H : Type) (enc : TypeId × Value → H) :
    ReturnsInHanded {} Try.checked os 4 .any (Rows.zoneAddSpec.pre6 enc Try.prog Try.f4 Rows.zoneAddRow.domain false) (Rows.zoneAddSpec.post enc Try.prog Try.f4 false true false false) := by
  refine law_lifted started Rows.zoneAddSpec rfl (by kernel_rfl) Try.func4 rfl
    (fun ds h => by match ds, h with | [_, _, _], _ => rfl) (of_decide_eq_true (by kernel_rfl))
    (ChangeSpec.witness6 (enc := enc) (C := Try.checked) false ⟨#[], #[.agg #[.int .i64 0, .slice none 0 0], .agg #[.int .i64 0, .int .i64 0, .int .i64 0], .int .i64 0], []⟩ 8 (by kernel_rfl) (by kernel_rfl) (by kernel_rfl) (by kernel_rfl)) ?_
  intro W base args ds p hval hA
  rw [Try.params4] at hA hval
  obtain ⟨v0, v1, v2, d0, d1, d2, p0, p1, p2, rfl, rfl, rfl, h0, h1, h2⟩ := trodAll_three hA
  have g0 := hval 0 _ v0 rfl rfl
  have g1 := hval 1 _ v1 rfl rfl
  have g2 := hval 2 _ v2 rfl rfl
  obtain ⟨⟨z, A, ca⟩, rfl, kA, -⟩ := (opn_zn W).agg Try.underlying24 rfl g0 h0
  obtain ⟨⟨X, Y, C⟩, rfl, -⟩ := (opn_diff W).agg Try.underlying43 rfl g1 h1
  obtain ⟨n, rfl, hn⟩ := (opn_int Try.underlying3 (by kernel_rfl)).one (one_int Try.underlying3 g2) h2
  exact zAdd_walk z X Y C n A ca W.heap kA hn
set_option maxRecDepth 100000 in
theorem zoneAdd_holds : Rows.ZoneAddSaid :=
  OpenClaim.holds_of_wide 4 Try.f4 rfl rfl rfl rfl rfl rfl rfl ⟨rfl, rfl, rfl, rfl, rfl⟩ rfl rfl rfl rfl rfl (by kernel_rfl) Try.func4 (by kernel_rfl)
    (of_decide_eq_true (by kernel_rfl)) (by unfold Func.isWrapper; first | (rw [if_pos (by decide +kernel)]; kernel_rfl) | (rw [if_neg (by decide +kernel)]; exact ⟨rfl, rfl⟩))
    (fun os started H enc _ => zoneAdd_lifted os started H enc)
end Go.Proofs.Ytjkbkmbblidipaa
