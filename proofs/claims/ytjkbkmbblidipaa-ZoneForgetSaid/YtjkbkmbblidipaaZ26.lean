/- ZoneForget: Forget returns the specified zone for any zone of up to 8 variables; an assignment is in it exactly if it is in the zone with another value of the variable. Conditions: none beyond the statement's. -/
import Derived.Test.YtjkbkmbblidipaaZ25
namespace Go.Proofs.Ytjkbkmbblidipaa
open Go.ChangeShapes Go.WideShapes Go.ChangeAt Go.RowKit Go.Deep

set_option maxRecDepth 100000 in
theorem zForget_walk (z : Zn) (vs : List Int) (x : Int) (A B : Option Addr) (ca cb : Nat) (H : Heap) (hA : Rd eInt H A z.b) (hV : Rd eInt H B vs) :
    CallsH Try.prog 9 [.agg (znC z A ca).toArray, .slice B vs.length cb, .int .i64 x] H fun v H' => v = .bool true ∧ Ext H H' := by
  obtain ⟨⟨zf, ef⟩, hfz⟩ : ∃ r, forZ z x = r := ⟨_, rfl⟩
  refine callsH_of Try.func9 rfl Try.ntmps9 (Nat.le_of_ble_eq_true rfl) ?_
  refine wpSeq fun F1 hF1 => ?_
  refine wpRegion ?_
  refine seqN rfl rfl (nBoxA rfl rfl) (fun g3 H3 hx3 hB3 hg3 hl3 => ?_)
  refine seqQ rfl rfl (yAssign (v := .bool _) rfl rfl) ?_
  refine seqNil ?_
  refine hF1 _ _ ?_; clear hF1
  refine wpSeq fun F2 hF2 => ?_
  refine wpSeq fun F3 hF3 => ?_
  refine wpRegion ?_
  -- e slot 16: call F12<farandole/farandolelaw13.awake> 
  refine seqE rfl rfl (stepCall rfl Try.call12 rfl ?_)
  refine (awake_c _).mono ?_
  rintro v Ha ⟨rfl, hxa⟩
  refine seqQ rfl rfl (yNot rfl rfl) ?_
  refine seqQ rfl rfl (yMove (v := .bool false) rfl rfl) ?_
  refine seqQ rfl rfl (yLoadB (hB3.ext hxa) rfl Try.underlying24 rfl Try.sizeOf24 rfl) ?_
  -- e slot 20: call F13<farandole/farandoleref13.Few> t19
  refine seqE rfl rfl (stepCall rfl Try.call13 rfl ?_)
  refine (few_c z A ca _).mono ?_
  rintro v Hf ⟨rfl, hxf⟩
  have hE := (hx3.trans hxa).trans hxf
  have q3 : H.size ≤ g3 := hg3
  replace hB3 := (hB3.ext hxa).ext hxf
  clear hx3 hxa hxf
  refine seqQ rfl rfl (yNot rfl rfl) ?_
  refine seqQ rfl rfl (yPickF (v := .bool _) rfl rfl rfl) ?_
  -- guard t23
  refine seqMeet 12 [23, 24, 25, 26, 27] 27 (decide (¬ (z.N ≤ 8 ∧ z.b.length ≤ 100) ∨ 8 < (vs.length : Int))) (fun hm4 => ?_) (fun J4 => ?_)
  · skip
    first | refine seqG rfl rfl rfl rfl (fun h23 => ?_) (fun h23 => ?_) | refine seqGB rfl rfl rfl rfl (fun h23 => ?_) (fun h23 => ?_)
    · skip
      refine seqU rfl rfl ?_
      refine seqU rfl rfl ?_
      refine seqU rfl rfl ?_
      refine seqQ rfl rfl (yPickT (v := .bool _) rfl rfl rfl) ?_
      exact hm4 _ (by repeat (first | (with_reducible exact Agree.refl _ _) | refine Agree.upd ?_ rfl | refine Agree.over ?_ rfl)) (by show Value.bool _ = Value.bool _; congr 1; grind)
    · skip
      refine seqQ rfl rfl (yMove (v := .slice _ _ _) rfl rfl) ?_
      refine seqQ rfl rfl (yLen rfl Try.underlying22 rfl) ?_
      refine seqQ rfl rfl (yGtr rfl rfl rfl) ?_
      refine seqQ rfl rfl (yPickF (v := .bool _) rfl rfl rfl) ?_
      exact hm4 _ (by repeat (first | (with_reducible exact Agree.refl _ _) | refine Agree.upd ?_ rfl | refine Agree.over ?_ rfl)) (by show Value.bool _ = Value.bool _; congr 1; grind)
  refine seqNil ?_
  refine hF3 _ _ ?_; clear hF3
  -- if t27
  refine wpIf rfl (fun hf => ?_) (fun hf => ?_)
  · skip
    refine wpSeq fun F5 hF5 => ?_
    refine wpRegion ?_
    -- e slot 28: call F12<farandole/farandolelaw13.awake> 
    refine seqE rfl rfl (stepCall rfl Try.call12 rfl ?_)
    refine (awake_c _).mono ?_
    rintro v Ha ⟨rfl, hxa⟩
    refine seqQ rfl rfl (yAssign (v := .bool _) rfl rfl) ?_
    refine seqNil ?_
    refine hF5 _ _ ?_; clear hF5
    -- ret
    refine wpRet (fin1 (v := .bool _) rfl rfl ?_)
    exact ⟨rfl, hE.trans hxa⟩
  · skip
    have h8 : z.N ≤ 8 := by omega
    have hvl : vs.length ≤ 8 := by omega
    have hfl := forZ_len (z := z) x h8
    rw [hfz] at hfl
    dsimp only at hfl
    refine wpSkip ?_
    refine hF2 _ _ ?_; clear hF2
    refine wpSeq fun F6 hF6 => ?_
    refine wpRegion ?_
    refine seqQ rfl rfl (yLoadB hB3 rfl Try.underlying24 rfl Try.sizeOf24 rfl) ?_
    -- e slot 31: call F15<farandole/farandolelaw13.own> t30
    refine seqE rfl rfl (stepCall rfl Try.call15 rfl ?_)
    refine (own_c z A ca _).mono ?_
    rintro v H1 ⟨rfl, hx1⟩
    refine seqQ rfl rfl (yMove (v := .int _ _) rfl rfl) ?_
    -- e slot 33: call F35<farandole/zone.Forget> t31 t32
    refine seqE rfl rfl (stepCall rfl Try.call35 rfl ?_)
    have hc := forget_c z x A ca _ ((hA.ext hE).ext hx1) h8
    rw [hfz] at hc
    dsimp only at hc
    refine hc.mono ?_
    rintro v H2 ⟨hx2, u, rfl, A1, c1, rfl, ho1⟩
    have r1' := (Own.rd ho1).2
    refine seqQ rfl rfl (yMove (v := .tuple _) rfl rfl) ?_
    refine seqQ rfl rfl (yExtract (v := .agg _) rfl rfl rfl) ?_
    refine seqQ rfl rfl (yExtract (v := .int _ _) rfl rfl rfl) ?_
    refine seqN rfl rfl (nAlloc rfl Try.zeroValue27 rfl) (fun g7 H7 hx7 hB7 hg7 hl7 => ?_)
    -- e slot None: store T27 t7 t34
    refine seqE0 rfl rfl (stepStoreB rfl (by kernel_rfl) rfl rfl rfl hB7 rfl ?_)
    intro H5 b7 hK5
    have x5 := afterStore (hx1.trans hx2) hx7 hg7 hK5
    have rf := rdStore r1' hx7 hg7 hK5
    replace hE := hE.trans x5
    replace hB3 := hB3.ext x5
    clear hx1 hx2 hx7 hK5 x5 ho1 r1' hc hB7
    refine seqQ rfl rfl (yAssign (v := .int _ _) rfl rfl) ?_
    refine seqNil ?_
    refine hF6 _ _ ?_; clear hF6
    refine wpSeq fun F7 hF7 => ?_
    refine wpRegion ?_
    refine seqQ rfl rfl (yLoadB hB3 rfl Try.underlying24 rfl Try.sizeOf24 rfl) ?_
    refine seqQ rfl rfl (yMove (v := .int _ _) rfl rfl) ?_
    -- e slot 39: call F36<farandole/farandoleref13.Forget> t37 t38
    refine seqE rfl rfl (stepCall rfl Try.call36 rfl ?_)
    have hc := rForget_c z x A ca _ (hA.ext hE) h8
    rw [hfz] at hc
    dsimp only at hc
    refine hc.mono ?_
    rintro v H2 ⟨hx2, u, rfl, A2, c2, rfl, ho2⟩
    have r2' := (Own.rd ho2).2
    refine seqQ rfl rfl (yMove (v := .tuple _) rfl rfl) ?_
    refine seqQ rfl rfl (yExtract (v := .agg _) rfl rfl rfl) ?_
    refine seqQ rfl rfl (yExtract (v := .int _ _) rfl rfl rfl) ?_
    refine seqN rfl rfl (nAlloc rfl Try.zeroValue24 rfl) (fun g9 H9 hx9 hB9 hg9 hl9 => ?_)
    -- e slot None: store T24 t9 t40
    refine seqE0 rfl rfl (stepStoreB rfl (by kernel_rfl) rfl rfl rfl hB9 rfl ?_)
    intro H6 b9 hK6
    have x5 := afterStore hx2 hx9 hg9 hK6
    have rf2 := rdStore r2' hx9 hg9 hK6
    replace hE := hE.trans x5
    replace hB3 := hB3.ext x5
    replace b7 := b7.ext x5
    replace rf := rf.ext x5
    clear hx2 hx9 hK6 x5 ho2 r2' hc hB9
    refine seqQ rfl rfl (yAssign (v := .int _ _) rfl rfl) ?_
    refine seqNil ?_
    refine hF7 _ _ ?_; clear hF7
    refine wpSeq fun F8 hF8 => ?_
    refine wpSeq fun F9 hF9 => ?_
    refine wpRegionD Try_mixed [.q, .q, .q, .q, .q, .e, .q, .e, .q, .q] 7 [0, 0, 3, 7, 15, 31, 15, 127, 255, 511] [] (by kernel_rfl) _ rfl [0, 1, 2, 3, 4, 5, 6] rfl (by simp) ?_
    refine lexQ rfl rfl rfl rfl (fun H hM => (yMove (v := .int _ _) rfl rfl)) ?_
    refine lexQ rfl rfl rfl rfl (fun H hM => (yMove (v := .int _ _) rfl rfl)) ?_
    refine lexQ rfl rfl rfl rfl (fun H hM => (yNeq rfl rfl rfl)) ?_
    -- guard t45
    rw [neI]
    refine lexQ rfl rfl rfl rfl (fun H hM => (yMove (v := .bool false) rfl rfl)) ?_
    refine lexQ rfl rfl rfl rfl (fun H hM => (yLoadB (b7.ext hM.ext) rfl Try.underlying27 rfl Try.sizeOf27 rfl)) ?_
    -- e slot 47: call F22<farandole/farandolelaw13.theirs> t46
    refine lexX0 rfl rfl rfl rfl rfl (by simp) (fun hM47 => stepCall rfl Try.call22 rfl ?_)
    refine (theirs_c zf A1 c1 _).mono ?_
    rintro v K1 ⟨rfl, k1⟩
    refine ⟨k1, fun _ => ?_⟩
    refine lexQ rfl rfl rfl rfl (fun H hM => (yLoadB (b9.ext hM.ext) rfl Try.underlying24 rfl Try.sizeOf24 rfl)) ?_
    -- tail
    refine lexNil0 rfl (fun hM => ?_)
    -- e slot 49: call F21<farandole/farandoleref13.Same> t47 t48
    refine seqE rfl rfl (stepCall rfl Try.call21 rfl ?_)
    refine (same_c zf zf A1 A2 c1 c2 _ (rf.ext k1) (rf2.ext k1) hfl).mono ?_
    rintro v K2 ⟨rfl, k2⟩
    rw [sameB]
    have kk := k1.trans k2
    replace hE := hE.trans kk
    replace hB3 := hB3.ext kk
    replace b7 := b7.ext kk
    replace rf := rf.ext kk
    clear k1 k2 kk b9 rf2
    refine seqQ rfl rfl (yNot rfl rfl) ?_
    refine seqQ rfl rfl (yPickF (v := .bool _) rfl rfl rfl) ?_
    refine seqNil ?_
    refine hF9 _ _ ?_; clear hF9
    -- if t51
    refine wpF rfl ?_
    refine wpSkip ?_
    refine hF8 _ _ ?_; clear hF8
    refine wpSeq fun F10 hF10 => ?_
    refine wpSeq fun F11 hF11 => ?_
    refine wpRegion ?_
    refine seqQ rfl rfl (yMove (v := .int _ _) rfl rfl) ?_
    refine seqQ rfl rfl (yNeq rfl rfl rfl) ?_
    -- guard t54
    by_cases he : ef = 0
    · obtain ⟨hv, hx0, hxN⟩ := forZ_ok (z := z) (x := x) (by rw [hfz]; exact he)
      obtain ⟨k, rfl⟩ := Int.eq_ofNat_of_zero_le hx0
      obtain ⟨d1, d2, d3, d4⟩ := hv.dim
      rw [show (!decide (ef = 0)) = false by simp [he]]
      refine seqQ rfl rfl (yMove (v := .bool false) rfl rfl) ?_
      refine seqQ rfl rfl (yMove (v := .slice _ _ _) rfl rfl) ?_
      refine seqQ rfl rfl (yLen rfl Try.underlying22 rfl) ?_
      refine seqQ rfl rfl (yFieldAddr rfl Try.underlying24 rfl Try.sizeOf3 rfl rfl) ?_
      refine seqQ rfl rfl (yLoad rfl Try.underlying3 rfl rfl (hB3.cell rfl)) ?_
      refine seqQ rfl rfl (yNeq rfl rfl rfl) ?_
      refine seqQ rfl rfl (yPickF (v := .bool _) rfl rfl rfl) ?_
      -- guard t61
      by_cases hl : (vs.length : Int) = z.N
      · skip
        rw [show (!decide ((vs.length : Int) = z.N)) = false by simp [hl]]
        have hkl : k < vs.length := by omega
        obtain ⟨p, rfl, hp⟩ := (hV.ext hE).at1 hkl
        refine seqQ rfl rfl (yMove (v := .bool false) rfl rfl) ?_
        refine seqQ rfl rfl (yMove (v := .slice _ _ _) rfl rfl) ?_
        refine seqQ rfl rfl (yMove (v := .int _ _) rfl rfl) ?_
        refine seqQ rfl rfl (yIdx1 rfl Try.underlying22 Try.sizeOf3 rfl rfl rfl hkl) ?_
        refine seqQ rfl rfl (yLoad rfl Try.underlying3 rfl rfl hp) ?_
        refine seqQ rfl rfl (yLss rfl rfl rfl) ?_
        refine seqQ rfl rfl (yPickF (v := .bool _) rfl rfl rfl) ?_
        -- guard t68
        refine seqMeet 23 [68, 69, 70, 71, 72, 73, 74] 74 (decide (vs[k] < -10000 ∨ 10000 < vs[k])) (fun hm12 => ?_) (fun J12 => ?_)
        · skip
          first | refine seqG rfl rfl rfl rfl (fun h68 => ?_) (fun h68 => ?_) | refine seqGB rfl rfl rfl rfl (fun h68 => ?_) (fun h68 => ?_)
          · skip
            refine seqU rfl rfl ?_
            refine seqU rfl rfl ?_
            refine seqU rfl rfl ?_
            refine seqU rfl rfl ?_
            refine seqU rfl rfl ?_
            refine seqQ rfl rfl (yPickT (v := .bool _) rfl rfl rfl) ?_
            exact hm12 _ (by repeat (first | (with_reducible exact Agree.refl _ _) | refine Agree.upd ?_ rfl | refine Agree.over ?_ rfl)) (by show Value.bool _ = Value.bool _; congr 1; grind)
          · skip
            refine seqQ rfl rfl (yMove (v := .slice _ _ _) rfl rfl) ?_
            refine seqQ rfl rfl (yMove (v := .int _ _) rfl rfl) ?_
            refine seqQ rfl rfl (yIdx1 rfl Try.underlying22 Try.sizeOf3 rfl rfl rfl hkl) ?_
            refine seqQ rfl rfl (yLoad rfl Try.underlying3 rfl rfl hp) ?_
            refine seqQ rfl rfl (yGtr rfl rfl rfl) ?_
            refine seqQ rfl rfl (yPickF (v := .bool _) rfl rfl rfl) ?_
            exact hm12 _ (by repeat (first | (with_reducible exact Agree.refl _ _) | refine Agree.upd ?_ rfl | refine Agree.over ?_ rfl)) (by show Value.bool _ = Value.bool _; congr 1; grind)
        refine seqNil ?_
        refine hF11 _ _ ?_; clear hF11
        -- if t74
        refine wpIf rfl (fun hout => ?_) (fun hout => ?_)
        · skip
          refine wpSeq fun F13 hF13 => ?_
          refine wpRegion ?_
          refine seqQ rfl rfl (yAssign (v := .bool _) rfl rfl) ?_
          refine seqNil ?_
          refine hF13 _ _ ?_; clear hF13
          -- ret
          refine wpRet (fin1 (v := .bool _) rfl rfl ?_)
          exact ⟨rfl, hE⟩
        · skip
          have hvk : -10000 ≤ vs[k] ∧ vs[k] ≤ 10000 := by omega
          refine wpSkip ?_
          refine hF10 _ _ ?_; clear hF10
          refine wpSeq fun F14 hF14 => ?_
          refine wpRegion ?_
          refine seqQ rfl rfl (yLoadB hB3 rfl Try.underlying24 rfl Try.sizeOf24 rfl) ?_
          -- e slot 76: call F15<farandole/farandolelaw13.own> t75
          refine seqE rfl rfl (stepCall rfl Try.call15 rfl ?_)
          refine (own_c z A ca _).mono ?_
          rintro v H9 ⟨rfl, hx9⟩
          refine seqN rfl rfl (nAlloc rfl Try.zeroValue27 rfl) (fun g11 H11 hx11 hB11 hg11 hl11 => ?_)
          -- e slot None: store T27 t11 t76
          refine seqE0 rfl rfl (stepStoreB rfl (by kernel_rfl) rfl rfl rfl hB11 rfl ?_)
          intro H11 hB12 hK11
          have x11 := afterStore hx9 hx11 hg11 hK11
          have s1 := hx9.size
          have s2 := hE.size
          have l3 := hB3.lt
          have l7 := b7.lt
          have st : LSt H g3 g11 z A ca z A ca H11 :=
            ⟨hE.trans x11, hB3.ext x11, hB12, (RdM.old hA ((hE.trans hx9).trans hx11) (by simp; omega)).tr (Tr.store hK11 (by simp)), hv, rfl, fun _ h => h, by omega, by omega⟩
          have rv := (RdM.old (M := [g11]) hV ((hE.trans hx9).trans hx11) (by simp; omega)).tr (Tr.store hK11 (by simp))
          have rf0 := (RdM.old (M := [g11]) rf (hx9.trans hx11) (by simp; omega)).tr (Tr.store hK11 (by simp))
          have n7 : g7 ≠ g11 := by omega
          have b70 := b7.ext x11
          clear hx9 hx11 hB11 hB12 hK11 x11 s1 s2 l3 hB3 rf b7 hE l7
          refine seqNil ?_
          refine hF14 _ _ ?_; clear hF14
          refine wpSeq fun F15 hF15 => ?_
          refine wpSeq fun F16 hF16 => ?_
          refine wpRegion ?_
          refine seqQ rfl rfl (yMove (v := .slice _ _ _) rfl rfl) ?_
          refine seqQ rfl rfl (yLen rfl Try.underlying22 rfl) ?_
          refine seqQ rfl rfl (yMove (v := .int _ _) rfl rfl) ?_
          refine seqNil ?_
          refine hF16 _ _ ?_; clear hF16
          -- loop
          refine wpBlock ?_
          refine wpLoopS [6, 12, 13, 79, 80, 81, 82, 83, 84, 85, 86, 87, 88, 89, 90, 91, 92, 93, 94, 95, 96, 97, 98, 99, 100, 101, 102, 103, 104, 105, 106, 107, 108, 109, 110, 111, 112, 113, 114] (fun x : Nat × Zn × Option Addr × Nat => [(79, .int .i64 x.1)]) (fun x H' => x.1 ≤ vs.length ∧ LSt H g3 g11 z A ca x.2.1 x.2.2.1 x.2.2.2 H' ∧ RdM eInt [g11] H' (some p) vs ∧ RdM eInt [g11] H' A1 zf.b ∧ Blk H' g7 (znC zf A1 c1) 27 ∧ (∀ t (h : t < vs.length), t < x.1 → t ≠ k → -10000 ≤ vs[t] ∧ vs[t] ≤ 10000) ∧ ∀ ws, HoldsP x.2.1 ws ↔ HoldsP z ws ∧ ∀ t (h : t < vs.length), t < x.1 → t ≠ k → num ws (t + 1) = vs[t]) (fun x => vs.length - x.1) (0, z, A, ca) ⟨rfl, trivial⟩ ⟨Nat.zero_le _, st, rv, rf0, b70, fun t _ h => absurd h (by simp), fun ws => ⟨fun h => ⟨h, fun t _ h => absurd h (by simp)⟩, fun h => h.1⟩⟩ ?_
          rintro ⟨i, zz, Bz, cz⟩ J Hi ⟨hi, st1, rv1, rf1, b71, hin, hsem⟩
          dsimp only at hi st1 rv1 rf1 b71 hin hsem
          clear st rv rf0 b70
          have hdz : dm zz = dm z := by unfold dm; rw [st1.eq]
          refine wpSeq fun F17 hF17 => ?_
          refine wpRegion ?_
          refine seqQ rfl rfl (yLss rfl rfl rfl) ?_
          refine seqNil ?_
          refine hF17 _ _ ?_; clear hF17
          refine wpSeq fun F18 hF18 => ?_
          -- if t80
          refine wpIf rfl (fun hlt => ?_) (fun hlt => ?_)
          · skip
            have hi : i < vs.length := by dsimp only at hlt; omega
            obtain ⟨q, eq, hqm, hq⟩ := rv1.at1 hi
            obtain rfl := Option.some.inj eq
            refine wpSkip ?_
            refine hF18 _ _ ?_; clear hF18
            refine wpSeq fun F19 hF19 => ?_
            refine wpBlock ?_
            refine wpSeq fun F20 hF20 => ?_
            refine wpRegion ?_
            refine seqQ rfl rfl (yMove (v := .int _ _) rfl rfl) ?_
            refine seqQ rfl rfl (yIdx1 rfl Try.underlying22 Try.sizeOf3 rfl rfl rfl hi) ?_
            refine seqQ rfl rfl (yLoad rfl Try.underlying3 rfl rfl hq) ?_
            refine seqQ rfl rfl (yAssign (v := .int _ _) rfl rfl) ?_
            refine seqQ rfl rfl (yAssign (v := .int _ _) rfl rfl) ?_
            refine seqNil ?_
            refine hF20 _ _ ?_; clear hF20
            refine wpSeq fun F21 hF21 => ?_
            refine wpSeq fun F22 hF22 => ?_
            refine wpRegion ?_
            refine seqQ rfl rfl (yMove (v := .int _ _) rfl rfl) ?_
            refine seqQ rfl rfl (yMove (v := .int _ _) rfl rfl) ?_
            refine seqQ rfl rfl (yEql rfl rfl rfl) ?_
            refine seqNil ?_
            refine hF22 _ _ ?_; clear hF22
            -- if t86
            refine wpIf rfl (fun hik => ?_) (fun hik => ?_)
            · skip
              have hik : i = k := by dsimp only at hik; omega
              refine wpExit ?_
              refine hF19 _ _ ?_; clear hF19
              refine wpRegion ?_
              refine seqQ rfl rfl (yAdd rfl rfl rfl (by unfold In64; omega)) ?_
              refine seqQ rfl rfl (yMove (v := .int _ _) rfl rfl) ?_
              refine seqNil ?_
              -- end loop
              refine loopEnd (i + 1, zz, Bz, cz) (by repeat (first | (with_reducible exact Agree.refl _ _) | refine Agree.upd ?_ rfl | refine Agree.over ?_ rfl)) (by dsimp only; omega) ⟨rfl, trivial⟩ ⟨hi, st1, rv1, rf1, b71, fun t h ht htk => hin t h (by omega) htk, fun ws => ?_⟩
              rw [hsem ws]
              refine and_congr_right fun _ => ⟨fun h t h1 h2 h3 => h t h1 (by omega) h3, fun h t h1 h2 h3 => h t h1 (by omega) h3⟩
            · skip
              have hik : i ≠ k := by dsimp only at hik; omega
              refine wpSkip ?_
              refine hF21 _ _ ?_; clear hF21
              refine wpSeq fun F23 hF23 => ?_
              refine wpSeq fun F24 hF24 => ?_
              refine wpRegion ?_
              refine seqQ rfl rfl (yMove (v := .int _ _) rfl rfl) ?_
              refine seqQ rfl rfl (yLss rfl rfl rfl) ?_
              -- guard t89
              refine seqMeet 6 [89, 90, 91, 92] 92 (decide (vs[i] < -10000 ∨ 10000 < vs[i])) (fun hm25 => ?_) (fun J25 => ?_)
              · skip
                first | refine seqG rfl rfl rfl rfl (fun h89 => ?_) (fun h89 => ?_) | refine seqGB rfl rfl rfl rfl (fun h89 => ?_) (fun h89 => ?_)
                · skip
                  refine seqU rfl rfl ?_
                  refine seqU rfl rfl ?_
                  refine seqQ rfl rfl (yPickT (v := .bool _) rfl rfl rfl) ?_
                  exact hm25 _ (by repeat (first | (with_reducible exact Agree.refl _ _) | refine Agree.upd ?_ rfl | refine Agree.over ?_ rfl)) (by show Value.bool _ = Value.bool _; congr 1; grind)
                · skip
                  refine seqQ rfl rfl (yMove (v := .int _ _) rfl rfl) ?_
                  refine seqQ rfl rfl (yGtr rfl rfl rfl) ?_
                  refine seqQ rfl rfl (yPickF (v := .bool _) rfl rfl rfl) ?_
                  exact hm25 _ (by repeat (first | (with_reducible exact Agree.refl _ _) | refine Agree.upd ?_ rfl | refine Agree.over ?_ rfl)) (by show Value.bool _ = Value.bool _; congr 1; grind)
              refine seqNil ?_
              refine hF24 _ _ ?_; clear hF24
              -- if t92
              refine wpIf rfl (fun hbad => ?_) (fun hbad => ?_)
              · skip
                have hno : ¬ HoldsP zf vs := fun h => by have := h.2.2.1 _ (List.getElem_mem hi); omega
                refine wpSeq fun F26 hF26 => ?_
                refine wpRegion ?_
                refine seqQ rfl rfl (yLoadB b71 rfl Try.underlying27 rfl Try.sizeOf27 rfl) ?_
                refine seqQ rfl rfl (yMove (v := .slice _ _ _) rfl rfl) ?_
                -- e slot 95: call F31<farandole/zone.Holds> t93 t94
                refine seqE rfl rfl (stepCall rfl Try.call31 rfl ?_)
                refine (holds_c zf vs A1 (some p) c1 cb _ rf1.rd rv1.rd).mono ?_
                rintro w Hw ⟨rfl, hxw⟩
                rw [decide_eq_false hno]
                refine seqQ rfl rfl (yNot rfl rfl) ?_
                refine seqQ rfl rfl (yAssign (v := .bool _) rfl rfl) ?_
                refine seqNil ?_
                refine hF26 _ _ ?_; clear hF26
                -- ret
                refine wpRet (fin1 (v := .bool _) rfl rfl ?_)
                exact ⟨rfl, st1.ext.trans hxw⟩
              · skip
                have hvi : -10000 ≤ vs[i] ∧ vs[i] ≤ 10000 := by omega
                refine wpSkip ?_
                refine hF23 _ _ ?_; clear hF23
                refine wpSeq fun F27 hF27 => ?_
                refine wpRegion ?_
                refine seqQ rfl rfl (yLoadB st1.b10 rfl Try.underlying27 rfl Try.sizeOf27 rfl) ?_
                refine seqQ rfl rfl (yMove (v := .int _ _) rfl rfl) ?_
                refine seqQ rfl rfl (yMove (v := .int _ _) rfl rfl) ?_
                refine seqQ rfl rfl (yBuild (pl := [(0, 1), (1, 1), (2, 1)]) (vs := [(0, .int _ _), (1, .int _ _), (2, .int _ _)]) rfl Try.underlying43 Try.zeroValue43 rfl (by unfold Places; kernel_rfl) rfl rfl) ?_
                -- e slot 102: call F23<farandole/zone.Add> t98 t101
                refine seqE rfl rfl (stepCall rfl Try.call23 rfl ?_)
                obtain ⟨L1, e1, v1, s1⟩ := addK st1.val (X := (i : Int)) (Y := -1) (i := i + 1) (j := 0) (by omega) (by omega) (by omega) (by omega) vs[i]
                have hc := add_c zz (i : Int) (-1) vs[i] Bz cz Hi st1.rd.rd
                rw [e1] at hc
                refine hc.mono ?_
                rintro w Hc ⟨hxc, u, rfl, B1, cb1, rfl, ho⟩
                refine seqQ rfl rfl (yMove (v := .tuple _) rfl rfl) ?_
                refine seqQ rfl rfl (yExtract (v := .agg _) rfl rfl rfl) ?_
                refine seqQ rfl rfl (yExtract (v := .int _ _) rfl rfl rfl) ?_
                -- e slot None: store T27 t11 t103
                refine seqE0 rfl rfl (stepStoreB rfl (by kernel_rfl) rfl rfl rfl (st1.b10.ext hxc) rfl ?_)
                intro Hs hBs hKs
                have st2 := st1.step hxc v1 (fun vs h => ((s1 vs).1 h).1) ho hBs hKs
                have tr1 := (Tr.of_ext hxc [g11]).trans (Tr.store hKs (by simp))
                replace rv1 := rv1.tr tr1
                replace rf1 := rf1.tr tr1
                replace b71 := (b71.ext hxc).keep hKs (by simpa using n7)
                clear st1 hxc ho hBs hKs hc tr1
                refine seqNil ?_
                refine hF27 _ _ ?_; clear hF27
                refine wpRegion ?_
                refine seqQ rfl rfl (yLoadB st2.b10 rfl Try.underlying27 rfl Try.sizeOf27 rfl) ?_
                refine seqQ rfl rfl (yMove (v := .int _ _) rfl rfl) ?_
                refine seqQ rfl rfl (yMove (v := .int _ _) rfl rfl) ?_
                refine seqQ rfl rfl (yNeg rfl rfl (by unfold In64; omega)) ?_
                refine seqQ rfl rfl (yBuild (pl := [(0, 1), (1, 1), (2, 1)]) (vs := [(0, .int _ _), (1, .int _ _), (2, .int _ _)]) rfl Try.underlying43 Try.zeroValue43 rfl (by unfold Places; kernel_rfl) rfl rfl) ?_
                -- e slot 111: call F23<farandole/zone.Add> t106 t110
                refine seqE rfl rfl (stepCall rfl Try.call23 rfl ?_)
                obtain ⟨L2, e2, v2, s2⟩ := addK st2.val (X := -1) (Y := (i : Int)) (i := 0) (j := i + 1) (by omega) (by omega) (by show 0 < dm zz; omega) (by show i + 1 < dm zz; omega) (-vs[i])
                have hc := add_c ⟨zz.N, L1⟩ (-1) (i : Int) (-vs[i]) B1 cb1 Hs st2.rd.rd
                rw [e2] at hc
                refine hc.mono ?_
                rintro w Hc ⟨hxc, u, rfl, B2, cb2, rfl, ho⟩
                refine seqQ rfl rfl (yMove (v := .tuple _) rfl rfl) ?_
                refine seqQ rfl rfl (yExtract (v := .agg _) rfl rfl rfl) ?_
                refine seqQ rfl rfl (yExtract (v := .int _ _) rfl rfl rfl) ?_
                -- e slot None: store T27 t11 t112
                refine seqE0 rfl rfl (stepStoreB rfl (by kernel_rfl) rfl rfl rfl (st2.b10.ext hxc) rfl ?_)
                intro Ht hBt hKt
                have st3 := st2.step hxc v2 (fun vs h => ((s2 vs).1 h).1) ho hBt hKt
                have tr1 := (Tr.of_ext hxc [g11]).trans (Tr.store hKt (by simp))
                replace rv1 := rv1.tr tr1
                replace rf1 := rf1.tr tr1
                replace b71 := (b71.ext hxc).keep hKt (by simpa using n7)
                refine seqNil ?_
                refine hF19 _ _ ?_; clear hF19
                refine wpRegion ?_
                refine seqQ rfl rfl (yAdd rfl rfl rfl (by unfold In64; omega)) ?_
                refine seqQ rfl rfl (yMove (v := .int _ _) rfl rfl) ?_
                refine seqNil ?_
                -- end loop
                refine loopEnd (i + 1, _, _, _) (by repeat (first | (with_reducible exact Agree.refl _ _) | refine Agree.upd ?_ rfl | refine Agree.over ?_ rfl)) (by dsimp only; omega) ⟨rfl, trivial⟩ ⟨hi, st3, rv1, rf1, b71, fun t h ht htk => ?_, fun ws => ?_⟩
                · rcases Nat.lt_or_ge t i with h1 | h1
                  · exact hin t h h1 htk
                  · obtain rfl : t = i := by dsimp only at ht; omega
                    exact hvi
                · change HoldsP ⟨zz.N, L2⟩ ws ↔ _
                  have key := (s2 ws).trans (and_congr_left' (s1 ws))
                  rw [key, hsem ws]
                  have n0 : num ws 0 = 0 := rfl
                  constructor
                  · rintro ⟨⟨⟨g1, g2⟩, g3⟩, g4⟩
                    refine ⟨g1, fun t h ht htk => ?_⟩
                    rcases Nat.lt_or_ge t i with h1 | h1
                    · exact g2 t h h1 htk
                    · obtain rfl : t = i := by dsimp only at ht; omega
                      omega
                  · rintro ⟨g1, g2⟩
                    have := g2 i hi (by dsimp only; omega) hik
                    exact ⟨⟨⟨g1, fun t h ht htk => g2 t h (by dsimp only; omega) htk⟩, by omega⟩, by omega⟩
          · skip
            have ei : i = vs.length := by dsimp only at hlt; omega
            subst ei
            have hr : ∀ v ∈ vs, -10000 ≤ v ∧ v ≤ 10000 := fun v hvs => by
              obtain ⟨t, ht, rfl⟩ := List.getElem_of_mem hvs
              by_cases htk : t = k
              · subst htk; exact hvk
              · exact hin t ht ht htk
            have hfs := for_spec hv (k := k) (by omega) hl hr
            rw [hfz] at hfs
            dsimp only at hfs
            have hms : (modZ zz).2 = decide (HoldsP zf vs) := by
              rw [Bool.eq_iff_iff, modZ_iff st1.val, decide_eq_true_iff, hfs]
              constructor
              · rintro ⟨ws, h⟩
                obtain ⟨g1, g2⟩ := (hsem ws).1 h
                exact ⟨ws, g1, fun t h htk => g2 t h h htk⟩
              · rintro ⟨ws, g1, g2⟩
                exact ⟨ws, (hsem ws).2 ⟨g1, fun t h _ htk => g2 t h htk⟩⟩
            refine wpExit ?_
            refine hF15 _ _ ?_; clear hF15
            refine wpSeq fun F28 hF28 => ?_
            refine wpRegion ?_
            refine seqQ rfl rfl (yLoadB st1.b10 rfl Try.underlying27 rfl Try.sizeOf27 rfl) ?_
            -- e slot 117: call F17<farandole/zone.Model> t116
            refine seqE rfl rfl (stepCall rfl Try.call17 rfl ?_)
            have hc := model_c zz Bz cz Hi st1.rd.rd (by rw [st1.eq]; exact h8)
            rw [hms] at hc
            refine hc.mono ?_
            rintro w Hw ⟨hxw, u, rfl, ho⟩
            obtain ⟨A9, c9, rfl, -⟩ := ho.form
            refine seqQ rfl rfl (yMove (v := .tuple _) rfl rfl) ?_
            refine seqQ rfl rfl (yExtract (v := .slice _ _ _) rfl rfl rfl) ?_
            refine seqQ rfl rfl (yExtract (v := .bool _) rfl rfl rfl) ?_
            refine seqQ rfl rfl (yAssign (v := .slice _ _ _) rfl rfl) ?_
            refine seqQ rfl rfl (yAssign (v := .bool _) rfl rfl) ?_
            refine seqNil ?_
            refine hF28 _ _ ?_; clear hF28
            refine wpSeq fun F29 hF29 => ?_
            refine wpRegion ?_
            refine seqQ rfl rfl (yLoadB (b71.ext hxw) rfl Try.underlying27 rfl Try.sizeOf27 rfl) ?_
            refine seqQ rfl rfl (yMove (v := .slice _ _ _) rfl rfl) ?_
            -- e slot 122: call F31<farandole/zone.Holds> t120 t121
            refine seqE rfl rfl (stepCall rfl Try.call31 rfl ?_)
            refine (holds_c zf vs A1 (some p) c1 cb _ (rf1.rd.ext hxw) (rv1.rd.ext hxw)).mono ?_
            rintro w Hy ⟨rfl, hxy⟩
            refine seqQ rfl rfl (yMove (v := .bool _) rfl rfl) ?_
            refine seqQ rfl rfl (yEqlB rfl Try.underlying4 rfl rfl) ?_
            refine seqQ rfl rfl (yAssign (v := .bool _) rfl rfl) ?_
            refine seqNil ?_
            refine hF29 _ _ ?_; clear hF29
            -- ret
            refine wpRet (fin1 (v := .bool _) rfl rfl ?_)
            exact ⟨by rw [eqB], (st1.ext.trans hxw).trans hxy⟩
      · skip
        rw [show (!decide ((vs.length : Int) = z.N)) = true by simp [hl]]
        refine seqQ rfl rfl (yMove (v := .bool true) rfl rfl) ?_
        refine seqU rfl rfl ?_
        refine seqU rfl rfl ?_
        refine seqU rfl rfl ?_
        refine seqU rfl rfl ?_
        refine seqU rfl rfl ?_
        refine seqQ rfl rfl (yPickT (v := .bool _) rfl rfl rfl) ?_
        refine seqQ rfl rfl (yMove (v := .bool true) rfl rfl) ?_
        refine seqU rfl rfl ?_
        refine seqU rfl rfl ?_
        refine seqU rfl rfl ?_
        refine seqU rfl rfl ?_
        refine seqU rfl rfl ?_
        refine seqQ rfl rfl (yPickT (v := .bool _) rfl rfl rfl) ?_
        refine seqNil ?_
        refine hF11 _ _ ?_; clear hF11
        -- if t74
        refine wpT rfl ?_
        refine wpSeq fun F30 hF30 => ?_
        refine wpRegion ?_
        refine seqQ rfl rfl (yAssign (v := .bool _) rfl rfl) ?_
        refine seqNil ?_
        refine hF30 _ _ ?_; clear hF30
        -- ret
        refine wpRet (fin1 (v := .bool _) rfl rfl ?_)
        exact ⟨rfl, hE⟩
    · rw [show (!decide (ef = 0)) = true by simp [he]]
      refine seqQ rfl rfl (yMove (v := .bool true) rfl rfl) ?_
      refine seqU rfl rfl ?_
      refine seqU rfl rfl ?_
      refine seqU rfl rfl ?_
      refine seqU rfl rfl ?_
      refine seqU rfl rfl ?_
      refine seqQ rfl rfl (yPickT (v := .bool _) rfl rfl rfl) ?_
      refine seqQ rfl rfl (yMove (v := .bool true) rfl rfl) ?_
      refine seqU rfl rfl ?_
      refine seqU rfl rfl ?_
      refine seqU rfl rfl ?_
      refine seqU rfl rfl ?_
      refine seqU rfl rfl ?_
      refine seqQ rfl rfl (yPickT (v := .bool _) rfl rfl rfl) ?_
      refine seqQ rfl rfl (yMove (v := .bool true) rfl rfl) ?_
      refine seqU rfl rfl ?_
      refine seqU rfl rfl ?_
      refine seqU rfl rfl ?_
      refine seqU rfl rfl ?_
      refine seqU rfl rfl ?_
      refine seqQ rfl rfl (yPickT (v := .bool _) rfl rfl rfl) ?_
      refine seqNil ?_
      refine hF11 _ _ ?_; clear hF11
      -- if t74
      refine wpT rfl ?_
      refine wpSeq fun F31 hF31 => ?_
      refine wpRegion ?_
      refine seqQ rfl rfl (yAssign (v := .bool _) rfl rfl) ?_
      refine seqNil ?_
      refine hF31 _ _ ?_; clear hF31
      -- ret
      refine wpRet (fin1 (v := .bool _) rfl rfl ?_)
      exact ⟨rfl, hE⟩
set_option maxRecDepth 100000 in
set_option maxRecDepth 100000 in
theorem zoneForget_lifted (os : Os) (started : os.Started) (H : Type) (enc : TypeId × Value → H) :
    ReturnsInHanded {} Try.checked os 9 .any (Rows.zoneForgetSpec.pre6 enc Try.prog Try.f9 Rows.zoneForgetRow.domain false) (Rows.zoneForgetSpec.post enc Try.prog Try.f9 false true false false) := by
  refine law_lifted started Rows.zoneForgetSpec rfl (by kernel_rfl) Try.func9 rfl
    (fun ds h => by match ds, h with | [_, _, _], _ => rfl) (of_decide_eq_true (by kernel_rfl))
    (ChangeSpec.witness6 (enc := enc) (C := Try.checked) false ⟨#[], #[.agg #[.int .i64 0, .slice none 0 0], .slice none 0 0, .int .i64 0], []⟩ 8 (by kernel_rfl) (by kernel_rfl) (by kernel_rfl) (by kernel_rfl)) ?_
  intro W base args ds p hval hA
  rw [Try.params9] at hA hval
  obtain ⟨v0, v1, v2, d0, d1, d2, p0, p1, p2, rfl, rfl, rfl, h0, h1, h2⟩ := trodAll_three hA
  have g0 := hval 0 _ v0 rfl rfl
  have g1 := hval 1 _ v1 rfl rfl
  have g2 := hval 2 _ v2 rfl rfl
  obtain ⟨⟨z, A, ca⟩, rfl, kA, -⟩ := (opn_zn W).agg Try.underlying24 rfl g0 h0
  obtain ⟨⟨B, cb, vs⟩, rfl, kB, -⟩ := (opn_ints W).one (one_slice Try.underlying22 g1) h1
  obtain ⟨x, rfl, -⟩ := (opn_int Try.underlying3 (by kernel_rfl)).one (one_int Try.underlying3 g2) h2
  exact zForget_walk z vs x A B ca cb W.heap kA kB
set_option maxRecDepth 100000 in
theorem zoneForget_holds : Rows.ZoneForgetSaid :=
  OpenClaim.holds_of_wide 9 Try.f9 rfl rfl rfl rfl rfl rfl rfl ⟨rfl, rfl, rfl, rfl, rfl⟩ rfl rfl rfl rfl rfl (by kernel_rfl) Try.func9 (by kernel_rfl)
    (of_decide_eq_true (by kernel_rfl)) (by unfold Func.isWrapper; first | (rw [if_pos (by decide +kernel)]; kernel_rfl) | (rw [if_neg (by decide +kernel)]; exact ⟨rfl, rfl⟩))
    (fun os started H enc _ => zoneForget_lifted os started H enc)
end Go.Proofs.Ytjkbkmbblidipaa
