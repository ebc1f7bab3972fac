/- ZoneImplies: a bound is implied, or an assignment of the zone violates it; an implied bound changes no assignment; any valid zone of up to 8 variables. Conditions: none beyond the statement's. -/
import Derived.Test.YtjkbkmbblidipaaZ19
import Derived.Test.YtjkbkmbblidipaaZ15
namespace Go.Proofs.Ytjkbkmbblidipaa
open Go.ChangeShapes Go.WideShapes Go.ChangeAt Go.RowKit Go.Deep

section
variable {z : Zn} {X Y C : Int} {i j : Nat}
set_option maxRecDepth 100000 in
theorem imp_yes (hv : ValZ z) (hX : X + 1 = (i : Int)) (hY : Y + 1 = (j : Int)) (hi : i < dm z) (hj : j < dm z) (h : impZ z X Y C = true) :
    (modZ (addZ z Y X (-C - 1)).1).2 = false ∧ subZ z (addZ z X Y C).1 = true ∧ subZ (addZ z X Y C).1 z = true := by
  have hd := hv.dim
  have kX : knownB z X := ⟨by omega, by omega⟩
  have kY : knownB z Y := ⟨by omega, by omega⟩
  have e1 := addZ_ok (C := C) hv kX kY
  rw [addZ_idx hv hX hY] at e1
  have v1 := addZ_val (C := C) hv hi hj
  have m1 := fun a b (hb : b < dm z) => addZ_mt (C := C) hv hi hj (a := a) (b := b) hb
  have h1 := addZ_holds (C := C) hv hi hj
  obtain ⟨L2, e2, v2, h2⟩ := addK hv hY hX hj hi (-C - 1)
  rw [e1, e2]
  dsimp only
  have b1 : Both z ⟨z.N, addL z.b (i * dm z + j) C⟩ := ⟨hv, v1, rfl⟩
  have b2 : Both ⟨z.N, addL z.b (i * dm z + j) C⟩ z := ⟨v1, hv, rfl⟩
  have s2 : subZ ⟨z.N, addL z.b (i * dm z + j) C⟩ z = true := by
    refine (subZ_iff b2).2 (SubM.self.mono ?_)
    intro a b ha hb
    change mt (dm z) (addL z.b (i * dm z + j) C) a b ≤ mt (dm z) z.b a b
    rw [m1 a b hb]
    split <;> omega
  rcases closeZ_cases z with ⟨e, hn⟩ | ⟨L, e, -, hB⟩
  · have hno : ∀ vs, ¬ HoldsP z vs := fun vs hh => by
      obtain ⟨L, e', _⟩ := hh.ok
      rw [e] at e'
      exact absurd (congrArg Prod.snd e') (by simp)
    exact ⟨(mod_none v2 fun vs hh => hno vs ((h2 vs).1 hh).1).1, subZ_empty b1 e, s2⟩
  · rw [impZ_yes ⟨hv, kX, kY⟩ e hX hY, decide_eq_true_iff] at h
    have bij := hB.in64 hv hi hj
    refine ⟨(mod_none v2 fun vs hh => ?_).1, ?_, s2⟩
    · obtain ⟨g1, g2⟩ := (h2 vs).1 hh
      have g3 := hB.max _ (dif_clo _ _) ((holds_iff g1.1 g1.2.1).1 g1) i j hi hj
      unfold dif at g3
      omega
    · refine (subZ_iff b1).2 ((SubM.of e).2 ?_)
      intro a b ha hb
      change mt (dm z) L a b ≤ mt (dm z) (addL z.b (i * dm z + j) C) a b
      rw [m1 a b hb]
      have g1 := hB.below hv ha hb
      split
      · rename_i ee
        obtain ⟨rfl, rfl⟩ := ee
        omega
      · exact g1
set_option maxRecDepth 100000 in
theorem imp_no (hv : ValZ z) (hX : X + 1 = (i : Int)) (hY : Y + 1 = (j : Int)) (hi : i < dm z) (hj : j < dm z) (h : impZ z X Y C = false) :
    ∃ m, modZ (addZ z Y X (-C - 1)).1 = (m, true) ∧ HoldsP z m ∧ ¬ HoldsP (addZ z X Y C).1 m := by
  have hd := hv.dim
  have kX : knownB z X := ⟨by omega, by omega⟩
  have kY : knownB z Y := ⟨by omega, by omega⟩
  obtain ⟨L1, e1, v1, h1⟩ := addK hv hX hY hi hj C
  obtain ⟨L2', e2', v2', h2⟩ := addK hv hY hX hj hi (-C - 1)
  have e2 := addZ_ok (C := -C - 1) hv kY kX
  rw [addZ_idx hv hY hX] at e2
  have m2 := fun a b (hb : b < dm z) => addZ_mt (C := -C - 1) hv hj hi (a := a) (b := b) hb
  rw [e2'] at e2
  have e3 : L2' = addL z.b (j * dm z + i) (-C - 1) := by injection e2 with e3 _; injection e3
  rcases closeZ_cases z with ⟨e, hn⟩ | ⟨L, e, -, hB⟩
  · rw [impZ_empty ⟨hv, kX, kY⟩ e] at h
    cases h
  · rw [impZ_yes ⟨hv, kX, kY⟩ e hX hY, decide_eq_false_iff_not] at h
    have bij := hB.in64 hv hi hj
    obtain ⟨L3, e4, hB3⟩ := closeZ_ok v2' (D := fun a b => min (mt (dm z) L a b) (mt (dm z) L a j + (-C - 1) + mt (dm z) L i b))
      (by
        intro a b k ha hb hk
        have t1 := hB.clo a b k ha hb hk
        have t2 := hB.clo a j k ha hj hk
        have t3 := hB.clo i b k hi hb hk
        have t4 := hB.clo i j k hi hj hk
        dsimp only
        omega)
      (by
        intro a ha
        have t1 := hB.dg a ha
        have t2 := hB.clo i j a hi hj ha
        dsimp only
        omega)
      (by
        intro a b ha hb
        have t1 := hB.below hv ha hb
        have t2 := hB.full hv ha hb
        have t3 := hB.zero hv hi
        have t4 := hB.zero hv hj
        change min (mt (dm z) L a b) (mt (dm z) L a j + (-C - 1) + mt (dm z) L i b) ≤ min (mt (dm z) L2' a b) (ful a b)
        rw [e3, m2 a b hb]
        split
        · rename_i ee
          obtain ⟨rfl, rfl⟩ := ee
          omega
        · omega)
    rw [e1, e2']
    dsimp only
    have hh := modL_holds v2' hB3
    refine ⟨modL (dm z) L3, by unfold modZ; rw [e4]; rfl, ((h2 _).1 hh).1, fun hm => ?_⟩
    have g1 := ((h2 _).1 hh).2
    have g2 := ((h1 _).1 hm).2
    have g3 := num_in hm.2.2.1 i
    have g4 := num_in hm.2.2.1 j
    change num (modL (dm z) L3) j - num (modL (dm z) L3) i ≤ _ at g1
    omega
end

/- A conversion and Add in a region, its zone in a variable. -/
set_option maxRecDepth 100000 in
theorem zImplies_walk (z : Zn) (X Y C : Int) (A : Option Addr) (ca : Nat) (H : Heap) (hA : Rd eInt H A z.b) :
    CallsH Try.prog 8 [.agg (znC z A ca).toArray, .agg [.int .i64 X, .int .i64 Y, .int .i64 C].toArray] H fun v H' => v = .bool true ∧ Ext H H' := by
  refine callsH_of Try.func8 rfl Try.ntmps8 (Nat.le_of_ble_eq_true rfl) ?_
  refine wpSeq fun F1 hF1 => ?_
  refine wpRegion ?_
  refine seqN rfl rfl (nBoxA rfl rfl) (fun g2 H2 hx2 hB2 hg2 hl2 => ?_)
  refine seqN rfl rfl (nBoxA rfl rfl) (fun g3 H3 hx3 hB3 hg3 hl3 => ?_)
  refine seqQ rfl rfl (yAssign (v := .bool _) rfl rfl) ?_
  refine seqNil ?_
  refine hF1 _ _ ?_; clear hF1
  refine wpSeq fun F2 hF2 => ?_
  refine wpSeq fun F3 hF3 => ?_
  refine wpRegion ?_
  -- e slot 11: call F12<farandole/farandolelaw13.awake> 
  refine seqE rfl rfl (stepCall rfl Try.call12 rfl ?_)
  refine (awake_c _).mono ?_
  rintro v Ha ⟨rfl, hxa⟩
  refine seqQ rfl rfl (yNot rfl rfl) ?_
  refine seqQ rfl rfl (yMove (v := .bool false) rfl rfl) ?_
  refine seqQ rfl rfl (yLoadB ((hB2.ext hx3).ext hxa) rfl Try.underlying24 rfl Try.sizeOf24 rfl) ?_
  -- e slot 15: call F13<farandole/farandoleref13.Few> t14
  refine seqE rfl rfl (stepCall rfl Try.call13 rfl ?_)
  refine (few_c z A ca _).mono ?_
  rintro v Hf ⟨rfl, hxf⟩
  have hE := ((hx2.trans hx3).trans hxa).trans hxf
  replace hB2 := ((hB2.ext hx3).ext hxa).ext hxf
  replace hB3 := (hB3.ext hxa).ext hxf
  clear hx2 hx3 hxa hxf
  refine seqQ rfl rfl (yNot rfl rfl) ?_
  refine seqQ rfl rfl (yPickF (v := .bool _) rfl rfl rfl) ?_
  -- guard t18
  refine seqGB rfl rfl rfl rfl (fun hf => ?_) (fun hf => ?_)
  · skip
    refine seqU rfl rfl ?_
    refine seqU rfl rfl ?_
    refine seqU rfl rfl ?_
    refine seqU rfl rfl ?_
    refine seqQ rfl rfl (yPickT (v := .bool _) rfl rfl rfl) ?_
    refine seqQ rfl rfl (yMove (v := .bool true) rfl rfl) ?_
    refine seqU rfl rfl ?_
    refine seqU rfl rfl ?_
    refine seqU rfl rfl ?_
    refine seqQ rfl rfl (yPickT (v := .bool _) rfl rfl rfl) ?_
    refine seqQ rfl rfl (yMove (v := .bool true) rfl rfl) ?_
    refine seqU rfl rfl ?_
    refine seqU rfl rfl ?_
    refine seqU rfl rfl ?_
    refine seqQ rfl rfl (yPickT (v := .bool _) rfl rfl rfl) ?_
    refine seqQ rfl rfl (yMove (v := .bool true) rfl rfl) ?_
    refine seqU rfl rfl ?_
    refine seqU rfl rfl ?_
    refine seqU rfl rfl ?_
    refine seqU rfl rfl ?_
    refine seqU rfl rfl ?_
    refine seqQ rfl rfl (yPickT (v := .bool _) rfl rfl rfl) ?_
    refine seqQ rfl rfl (yMove (v := .bool true) rfl rfl) ?_
    refine seqU rfl rfl ?_
    refine seqU rfl rfl ?_
    refine seqU rfl rfl ?_
    refine seqU rfl rfl ?_
    refine seqU rfl rfl ?_
    refine seqQ rfl rfl (yPickT (v := .bool _) rfl rfl rfl) ?_
    refine seqQ rfl rfl (yMove (v := .bool true) rfl rfl) ?_
    refine seqU rfl rfl ?_
    refine seqU rfl rfl ?_
    refine seqU rfl rfl ?_
    refine seqQ rfl rfl (yPickT (v := .bool _) rfl rfl rfl) ?_
    refine seqQ rfl rfl (yMove (v := .bool true) rfl rfl) ?_
    refine seqU rfl rfl ?_
    refine seqU rfl rfl ?_
    refine seqU rfl rfl ?_
    refine seqQ rfl rfl (yPickT (v := .bool _) rfl rfl rfl) ?_
    refine seqNil ?_
    refine hF3 _ _ ?_; clear hF3
    -- if t57
    refine wpT rfl ?_
    refine wpSeq fun F4 hF4 => ?_
    refine wpRegion ?_
    -- e slot 58: call F12<farandole/farandolelaw13.awake> 
    refine seqE rfl rfl (stepCall rfl Try.call12 rfl ?_)
    refine (awake_c _).mono ?_
    rintro v Ha ⟨rfl, hxa⟩
    refine seqQ rfl rfl (yAssign (v := .bool _) rfl rfl) ?_
    refine seqNil ?_
    refine hF4 _ _ ?_; clear hF4
    -- ret
    refine wpRet (fin1 (v := .bool _) rfl rfl ?_)
    exact ⟨rfl, hE.trans hxa⟩
  · skip
    have hf : z.N ≤ 8 ∧ z.b.length ≤ 100 := by simpa using hf
    obtain ⟨h8, -⟩ := hf
    refine seqQ rfl rfl (yLoadB hB2 rfl Try.underlying24 rfl Try.sizeOf24 rfl) ?_
    -- e slot 20: call F15<farandole/farandolelaw13.own> t19
    refine seqE rfl rfl (stepCall rfl Try.call15 rfl ?_)
    refine (own_c z A ca _).mono ?_
    rintro v H1 ⟨rfl, hx1⟩
    -- e slot 21: call F27<farandole/zone.Valid> t20
    refine seqE rfl rfl (stepCall rfl Try.call27 rfl ?_)
    refine (zvalid_c z A ca _ ((hA.ext hE).ext hx1)).mono ?_
    rintro v Hg ⟨rfl, hxg⟩
    replace hE := (hE.trans hx1).trans hxg
    replace hB2 := (hB2.ext hx1).ext hxg
    replace hB3 := (hB3.ext hx1).ext hxg
    clear hx1 hxg
    refine seqQ rfl rfl (yNot rfl rfl) ?_
    refine seqQ rfl rfl (yPickF (v := .bool _) rfl rfl rfl) ?_
    -- guard t24
    refine seqGB rfl rfl rfl rfl (fun hv => ?_) (fun hv => ?_)
    · skip
      refine seqU rfl rfl ?_
      refine seqU rfl rfl ?_
      refine seqU rfl rfl ?_
      refine seqQ rfl rfl (yPickT (v := .bool _) rfl rfl rfl) ?_
      refine seqQ rfl rfl (yMove (v := .bool true) rfl rfl) ?_
      refine seqU rfl rfl ?_
      refine seqU rfl rfl ?_
      refine seqU rfl rfl ?_
      refine seqQ rfl rfl (yPickT (v := .bool _) rfl rfl rfl) ?_
      refine seqQ rfl rfl (yMove (v := .bool true) rfl rfl) ?_
      refine seqU rfl rfl ?_
      refine seqU rfl rfl ?_
      refine seqU rfl rfl ?_
      refine seqU rfl rfl ?_
      refine seqU rfl rfl ?_
      refine seqQ rfl rfl (yPickT (v := .bool _) rfl rfl rfl) ?_
      refine seqQ rfl rfl (yMove (v := .bool true) rfl rfl) ?_
      refine seqU rfl rfl ?_
      refine seqU rfl rfl ?_
      refine seqU rfl rfl ?_
      refine seqU rfl rfl ?_
      refine seqU rfl rfl ?_
      refine seqQ rfl rfl (yPickT (v := .bool _) rfl rfl rfl) ?_
      refine seqQ rfl rfl (yMove (v := .bool true) rfl rfl) ?_
      refine seqU rfl rfl ?_
      refine seqU rfl rfl ?_
      refine seqU rfl rfl ?_
      refine seqQ rfl rfl (yPickT (v := .bool _) rfl rfl rfl) ?_
      refine seqQ rfl rfl (yMove (v := .bool true) rfl rfl) ?_
      refine seqU rfl rfl ?_
      refine seqU rfl rfl ?_
      refine seqU rfl rfl ?_
      refine seqQ rfl rfl (yPickT (v := .bool _) rfl rfl rfl) ?_
      refine seqNil ?_
      refine hF3 _ _ ?_; clear hF3
      -- if t57
      refine wpT rfl ?_
      refine wpSeq fun F5 hF5 => ?_
      refine wpRegion ?_
      -- e slot 58: call F12<farandole/farandolelaw13.awake> 
      refine seqE rfl rfl (stepCall rfl Try.call12 rfl ?_)
      refine (awake_c _).mono ?_
      rintro v Ha ⟨rfl, hxa⟩
      refine seqQ rfl rfl (yAssign (v := .bool _) rfl rfl) ?_
      refine seqNil ?_
      refine hF5 _ _ ?_; clear hF5
      -- ret
      refine wpRet (fin1 (v := .bool _) rfl rfl ?_)
      exact ⟨rfl, hE.trans hxa⟩
    · skip
      have hv : ValZ z := by simpa using hv
      obtain ⟨d1, d2, d3, d4⟩ := hv.dim
      refine seqQ rfl rfl (yFieldAddr rfl Try.underlying43 rfl Try.sizeOf3 rfl rfl) ?_
      refine seqQ rfl rfl (yLoad rfl Try.underlying3 rfl rfl (hB3.cell rfl)) ?_
      refine seqQ rfl rfl (yLss rfl rfl rfl) ?_
      refine seqQ rfl rfl (yPickF (v := .bool _) rfl rfl rfl) ?_
      -- guard t29
      refine seqMeet 23 [29, 30, 31, 32, 33] 33 (decide (X < -1 ∨ Y < -1)) (fun hm6 => ?_) (fun J6 => ?_)
      · skip
        first | refine seqG rfl rfl rfl rfl (fun h29 => ?_) (fun h29 => ?_) | refine seqGB rfl rfl rfl rfl (fun h29 => ?_) (fun h29 => ?_)
        · skip
          refine seqU rfl rfl ?_
          refine seqU rfl rfl ?_
          refine seqU rfl rfl ?_
          refine seqQ rfl rfl (yPickT (v := .bool _) rfl rfl rfl) ?_
          exact hm6 _ (by repeat (first | (with_reducible exact Agree.refl _ _) | refine Agree.upd ?_ rfl | refine Agree.over ?_ rfl)) (by show Value.bool _ = Value.bool _; congr 1; grind)
        · skip
          refine seqQ rfl rfl (yFieldAddr rfl Try.underlying43 rfl Try.sizeOf3 rfl rfl) ?_
          refine seqQ rfl rfl (yLoad rfl Try.underlying3 rfl rfl (hB3.cell rfl)) ?_
          refine seqQ rfl rfl (yLss rfl rfl rfl) ?_
          refine seqQ rfl rfl (yPickF (v := .bool _) rfl rfl rfl) ?_
          exact hm6 _ (by repeat (first | (with_reducible exact Agree.refl _ _) | refine Agree.upd ?_ rfl | refine Agree.over ?_ rfl)) (by show Value.bool _ = Value.bool _; congr 1; grind)
      -- guard t34
      refine seqMeet 30 [34, 35, 36, 37, 38, 39, 40] 40 (decide ((X < -1 ∨ Y < -1) ∨ z.N ≤ X)) (fun hm7 => ?_) (fun J7 => ?_)
      · skip
        first | refine seqG rfl rfl rfl rfl (fun h34 => ?_) (fun h34 => ?_) | refine seqGB rfl rfl rfl rfl (fun h34 => ?_) (fun h34 => ?_)
        · skip
          refine seqU rfl rfl ?_
          refine seqU rfl rfl ?_
          refine seqU rfl rfl ?_
          refine seqU rfl rfl ?_
          refine seqU rfl rfl ?_
          refine seqQ rfl rfl (yPickT (v := .bool _) rfl rfl rfl) ?_
          exact hm7 _ (by repeat (first | (with_reducible exact Agree.refl _ _) | refine Agree.upd ?_ rfl | refine Agree.over ?_ rfl)) (by show Value.bool _ = Value.bool _; congr 1; grind)
        · skip
          refine seqQ rfl rfl (yFieldAddr rfl Try.underlying43 rfl Try.sizeOf3 rfl rfl) ?_
          refine seqQ rfl rfl (yLoad rfl Try.underlying3 rfl rfl (hB3.cell rfl)) ?_
          refine seqQ rfl rfl (yFieldAddr rfl Try.underlying24 rfl Try.sizeOf3 rfl rfl) ?_
          refine seqQ rfl rfl (yLoad rfl Try.underlying3 rfl rfl (hB2.cell rfl)) ?_
          refine seqQ rfl rfl (yGeq rfl rfl rfl) ?_
          refine seqQ rfl rfl (yPickF (v := .bool _) rfl rfl rfl) ?_
          exact hm7 _ (by repeat (first | (with_reducible exact Agree.refl _ _) | refine Agree.upd ?_ rfl | refine Agree.over ?_ rfl)) (by show Value.bool _ = Value.bool _; congr 1; grind)
      -- guard t41
      refine seqMeet 37 [41, 42, 43, 44, 45, 46, 47] 47 (decide (((X < -1 ∨ Y < -1) ∨ z.N ≤ X) ∨ z.N ≤ Y)) (fun hm8 => ?_) (fun J8 => ?_)
      · skip
        first | refine seqG rfl rfl rfl rfl (fun h41 => ?_) (fun h41 => ?_) | refine seqGB rfl rfl rfl rfl (fun h41 => ?_) (fun h41 => ?_)
        · skip
          refine seqU rfl rfl ?_
          refine seqU rfl rfl ?_
          refine seqU rfl rfl ?_
          refine seqU rfl rfl ?_
          refine seqU rfl rfl ?_
          refine seqQ rfl rfl (yPickT (v := .bool _) rfl rfl rfl) ?_
          exact hm8 _ (by repeat (first | (with_reducible exact Agree.refl _ _) | refine Agree.upd ?_ rfl | refine Agree.over ?_ rfl)) (by show Value.bool _ = Value.bool _; congr 1; grind)
        · skip
          refine seqQ rfl rfl (yFieldAddr rfl Try.underlying43 rfl Try.sizeOf3 rfl rfl) ?_
          refine seqQ rfl rfl (yLoad rfl Try.underlying3 rfl rfl (hB3.cell rfl)) ?_
          refine seqQ rfl rfl (yFieldAddr rfl Try.underlying24 rfl Try.sizeOf3 rfl rfl) ?_
          refine seqQ rfl rfl (yLoad rfl Try.underlying3 rfl rfl (hB2.cell rfl)) ?_
          refine seqQ rfl rfl (yGeq rfl rfl rfl) ?_
          refine seqQ rfl rfl (yPickF (v := .bool _) rfl rfl rfl) ?_
          exact hm8 _ (by repeat (first | (with_reducible exact Agree.refl _ _) | refine Agree.upd ?_ rfl | refine Agree.over ?_ rfl)) (by show Value.bool _ = Value.bool _; congr 1; grind)
      -- guard t48
      refine seqMeet 42 [48, 49, 50, 51, 52] 52 (decide ((((X < -1 ∨ Y < -1) ∨ z.N ≤ X) ∨ z.N ≤ Y) ∨ C < -40000)) (fun hm9 => ?_) (fun J9 => ?_)
      · skip
        first | refine seqG rfl rfl rfl rfl (fun h48 => ?_) (fun h48 => ?_) | refine seqGB rfl rfl rfl rfl (fun h48 => ?_) (fun h48 => ?_)
        · skip
          refine seqU rfl rfl ?_
          refine seqU rfl rfl ?_
          refine seqU rfl rfl ?_
          refine seqQ rfl rfl (yPickT (v := .bool _) rfl rfl rfl) ?_
          exact hm9 _ (by repeat (first | (with_reducible exact Agree.refl _ _) | refine Agree.upd ?_ rfl | refine Agree.over ?_ rfl)) (by show Value.bool _ = Value.bool _; congr 1; grind)
        · skip
          refine seqQ rfl rfl (yFieldAddr rfl Try.underlying43 rfl Try.sizeOf3 rfl rfl) ?_
          refine seqQ rfl rfl (yLoad rfl Try.underlying3 rfl rfl (hB3.cell rfl)) ?_
          refine seqQ rfl rfl (yLss rfl rfl rfl) ?_
          refine seqQ rfl rfl (yPickF (v := .bool _) rfl rfl rfl) ?_
          exact hm9 _ (by repeat (first | (with_reducible exact Agree.refl _ _) | refine Agree.upd ?_ rfl | refine Agree.over ?_ rfl)) (by show Value.bool _ = Value.bool _; congr 1; grind)
      -- guard t53
      refine seqMeet 47 [53, 54, 55, 56, 57] 57 (decide (((((X < -1 ∨ Y < -1) ∨ z.N ≤ X) ∨ z.N ≤ Y) ∨ C < -40000) ∨ 40000 < C)) (fun hm10 => ?_) (fun J10 => ?_)
      · skip
        first | refine seqG rfl rfl rfl rfl (fun h53 => ?_) (fun h53 => ?_) | refine seqGB rfl rfl rfl rfl (fun h53 => ?_) (fun h53 => ?_)
        · skip
          refine seqU rfl rfl ?_
          refine seqU rfl rfl ?_
          refine seqU rfl rfl ?_
          refine seqQ rfl rfl (yPickT (v := .bool _) rfl rfl rfl) ?_
          exact hm10 _ (by repeat (first | (with_reducible exact Agree.refl _ _) | refine Agree.upd ?_ rfl | refine Agree.over ?_ rfl)) (by show Value.bool _ = Value.bool _; congr 1; grind)
        · skip
          refine seqQ rfl rfl (yFieldAddr rfl Try.underlying43 rfl Try.sizeOf3 rfl rfl) ?_
          refine seqQ rfl rfl (yLoad rfl Try.underlying3 rfl rfl (hB3.cell rfl)) ?_
          refine seqQ rfl rfl (yGtr rfl rfl rfl) ?_
          refine seqQ rfl rfl (yPickF (v := .bool _) rfl rfl rfl) ?_
          exact hm10 _ (by repeat (first | (with_reducible exact Agree.refl _ _) | refine Agree.upd ?_ rfl | refine Agree.over ?_ rfl)) (by show Value.bool _ = Value.bool _; congr 1; grind)
      refine seqNil ?_
      refine hF3 _ _ ?_; clear hF3
      -- if t57
      refine wpIf rfl (fun hbad => ?_) (fun hbad => ?_)
      · skip
        refine wpSeq fun F11 hF11 => ?_
        refine wpRegion ?_
        -- e slot 58: call F12<farandole/farandolelaw13.awake> 
        refine seqE rfl rfl (stepCall rfl Try.call12 rfl ?_)
        refine (awake_c _).mono ?_
        rintro v Ha ⟨rfl, hxa⟩
        refine seqQ rfl rfl (yAssign (v := .bool _) rfl rfl) ?_
        refine seqNil ?_
        refine hF11 _ _ ?_; clear hF11
        -- ret
        refine wpRet (fin1 (v := .bool _) rfl rfl ?_)
        exact ⟨rfl, hE.trans hxa⟩
      · skip
        obtain ⟨i, hi, hi2⟩ : ∃ i : Nat, X + 1 = (i : Int) ∧ i < dm z := ⟨(X + 1).toNat, by omega, by omega⟩
        obtain ⟨j, hj, hj2⟩ : ∃ j : Nat, Y + 1 = (j : Int) ∧ j < dm z := ⟨(Y + 1).toNat, by omega, by omega⟩
        obtain ⟨L1, e1, v1, -⟩ := addK hv hi hj hi2 hj2 C
        obtain ⟨L2, e2, v2, -⟩ := addK hv hj hi hj2 hi2 (-C - 1)
        have iy := fun h => imp_yes (C := C) hv hi hj hi2 hj2 h
        have in_ := fun h => imp_no (C := C) hv hi hj hi2 hj2 h
        rw [e1, e2] at iy in_
        dsimp only at iy in_
        refine wpSkip ?_
        refine hF2 _ _ ?_; clear hF2
        refine wpSeq fun F12 hF12 => ?_
        refine wpRegionD Try_mixed [.q, .e, .q, .e, .q, .q, .q, .n, .e, .q] 9 [0, 1, 0, 7, 15, 31, 31, 0, 191, 511] [] (by kernel_rfl) _ rfl [0, 1, 2, 3, 4, 5, 6, 7, 8] rfl (by simp) ?_
        refine lexQ rfl rfl rfl rfl (fun H hM => (yLoadB (hB2.ext hM.ext) rfl Try.underlying24 rfl Try.sizeOf24 rfl)) ?_
        -- e slot 61: call F15<farandole/farandolelaw13.own> t60
        refine lexX rfl rfl rfl rfl (by simp) (fun H61 hX61 hM61 hN61 => stepCall rfl Try.call15 rfl ?_)
        refine (own_c z A ca _).mono ?_
        rintro v K1 ⟨rfl, k1⟩
        refine ⟨k1, fun _ => ?_⟩
        refine lexQ rfl rfl rfl rfl (fun H hM => (yLoadB (hB3.ext hM.ext) rfl Try.underlying43 rfl Try.sizeOf43 rfl)) ?_
        -- e slot 63: call F23<farandole/zone.Add> t61 t62
        refine lexE rfl rfl rfl rfl (fun H63 hX63 hM63 hN63 => stepCall rfl Try.call23 rfl ?_)
        have kk := ((hX61).trans k1).trans hX63
        have hc := add_c z X Y C A ca _ ((hA.ext hE).ext kk)
        rw [e1] at hc
        dsimp only at hc
        refine hc.mono ?_
        rintro v K3 ⟨k3, u, rfl, A1, c1, rfl, ho⟩
        refine lexFr (F := (Value.slice A1 (L1).length c1).ownBlock.toList) k3 (fun b hb => by rw [Option.mem_toList] at hb; exact ho.lt b hb) (by simp) ?_
        refine lexQ rfl rfl rfl rfl (fun H hM => (yMove (v := .tuple _) rfl rfl)) ?_
        refine lexQ rfl rfl rfl rfl (fun H hM => (yExtract (v := .agg _) rfl rfl rfl)) ?_
        refine lexQ rfl rfl rfl rfl (fun H hM => (yExtract (v := .int _ _) rfl rfl rfl)) ?_
        refine lexNB rfl rfl rfl rfl (nAlloc rfl Try.zeroValue27 rfl) (fun g5 hg5 hne5 => ?_)
        -- e slot None: store T27 t5 t64
        refine lexES0 rfl rfl rfl rfl (by first | assumption | omega) (by first | (dsimp only; rfl) | kernel_rfl) (by simp) (fun Hs hXs hMs hBs hFs => stepStoreB rfl (by kernel_rfl) rfl rfl rfl hBs rfl ?_)
        intro K4 b1 hK4
        have nn : ∀ b, (Value.slice A1 (L1).length c1).ownBlock = some b → b ≠ g5 := fun b hb e => hFs (List.mem_append.2 (.inl (by rw [Option.mem_toList, hb, e])))
        have xs := hXs
        refine ⟨hK4, fun b hb => by rw [List.append_nil, Option.mem_toList] at hb; have := (ho.lt b hb).2; have := xs.size; omega, ?_⟩
        -- tail
        refine lexNil (fun K5 hX5 hM5 hN5 => ?_)
        have x5 := (((kk.trans k3).trans xs).mine hK4 (by simp; omega)).trans hX5
        replace b1 := (b1).ext hX5
        have r1 := (Own.rd (((ho.ext xs).keep hK4 (fun b hb => by simpa using nn b hb)).ext hX5)).2
        clear hX61 hX63 k1 k3 kk xs hXs hK4 hX5 hN5 ho hc nn
        replace hE := hE.trans x5
        replace hB2 := hB2.ext x5
        replace hB3 := hB3.ext x5
        clear x5
        refine seqQ rfl rfl (yAssign (v := .int _ _) rfl rfl) ?_
        refine seqNil ?_
        refine hF12 _ _ ?_; clear hF12
        refine wpSeq fun F13 hF13 => ?_
        refine wpRegionD Try_mixed [.q, .e, .q, .q, .q, .q, .q, .q, .q, .q, .q, .e, .q, .q, .q, .n, .e, .q] 17 [0, 1, 0, 4, 0, 16, 0, 64, 192, 448, 1020, 2047, 4095, 8191, 8191, 0, 49151, 131071] [] (by kernel_rfl) _ rfl [0, 1, 2, 3, 4, 5, 6, 7, 8, 9, 10, 11, 12, 13, 14, 15, 16] rfl (by simp) ?_
        refine lexQ rfl rfl rfl rfl (fun H hM => (yLoadB (hB2.ext hM.ext) rfl Try.underlying24 rfl Try.sizeOf24 rfl)) ?_
        -- e slot 68: call F15<farandole/farandolelaw13.own> t67
        refine lexX rfl rfl rfl rfl (by simp) (fun H68 hX68 hM68 hN68 => stepCall rfl Try.call15 rfl ?_)
        refine (own_c z A ca _).mono ?_
        rintro v K1 ⟨rfl, k1⟩
        refine ⟨k1, fun _ => ?_⟩
        refine lexQ rfl rfl rfl rfl (fun H hM => (yFieldAddr rfl Try.underlying43 rfl Try.sizeOf3 rfl rfl)) ?_
        refine lexQ rfl rfl rfl rfl (fun H hM => (yLoad rfl Try.underlying3 rfl rfl (hM.ext.cell (hB3.cell rfl)))) ?_
        refine lexQ rfl rfl rfl rfl (fun H hM => (yFieldAddr rfl Try.underlying43 rfl Try.sizeOf3 rfl rfl)) ?_
        refine lexQ rfl rfl rfl rfl (fun H hM => (yLoad rfl Try.underlying3 rfl rfl (hM.ext.cell (hB3.cell rfl)))) ?_
        refine lexQ rfl rfl rfl rfl (fun H hM => (yFieldAddr rfl Try.underlying43 rfl Try.sizeOf3 rfl rfl)) ?_
        refine lexQ rfl rfl rfl rfl (fun H hM => (yLoad rfl Try.underlying3 rfl rfl (hM.ext.cell (hB3.cell rfl)))) ?_
        refine lexQ rfl rfl rfl rfl (fun H hM => (yNeg rfl rfl (by unfold In64; omega))) ?_
        refine lexQ rfl rfl rfl rfl (fun H hM => (ySub rfl rfl rfl (by unfold In64; omega))) ?_
        refine lexQ rfl rfl rfl rfl (fun H hM => (yBuild (pl := [(0, 1), (1, 1), (2, 1)]) (vs := [(0, .int _ _), (1, .int _ _), (2, .int _ _)]) rfl Try.underlying43 Try.zeroValue43 rfl (by unfold Places; kernel_rfl) rfl rfl)) ?_
        -- e slot 78: call F23<farandole/zone.Add> t68 t77
        refine lexE rfl rfl rfl rfl (fun H78 hX78 hM78 hN78 => stepCall rfl Try.call23 rfl ?_)
        have kk := ((hX68).trans k1).trans hX78
        have hc := add_c z Y X (-C - 1) A ca _ ((hA.ext hE).ext kk)
        rw [e2] at hc
        dsimp only at hc
        refine hc.mono ?_
        rintro v K3 ⟨k3, u, rfl, A2, c2, rfl, ho⟩
        refine lexFr (F := (Value.slice A2 (L2).length c2).ownBlock.toList) k3 (fun b hb => by rw [Option.mem_toList] at hb; exact ho.lt b hb) (by simp) ?_
        refine lexQ rfl rfl rfl rfl (fun H hM => (yMove (v := .tuple _) rfl rfl)) ?_
        refine lexQ rfl rfl rfl rfl (fun H hM => (yExtract (v := .agg _) rfl rfl rfl)) ?_
        refine lexQ rfl rfl rfl rfl (fun H hM => (yExtract (v := .int _ _) rfl rfl rfl)) ?_
        refine lexNB rfl rfl rfl rfl (nAlloc rfl Try.zeroValue27 rfl) (fun g7 hg7 hne7 => ?_)
        -- e slot None: store T27 t7 t79
        refine lexES0 rfl rfl rfl rfl (by first | assumption | omega) (by first | (dsimp only; rfl) | kernel_rfl) (by simp) (fun Hs hXs hMs hBs hFs => stepStoreB rfl (by kernel_rfl) rfl rfl rfl hBs rfl ?_)
        intro K4 b2 hK4
        have nn : ∀ b, (Value.slice A2 (L2).length c2).ownBlock = some b → b ≠ g7 := fun b hb e => hFs (List.mem_append.2 (.inl (by rw [Option.mem_toList, hb, e])))
        have xs := hXs
        refine ⟨hK4, fun b hb => by rw [List.append_nil, Option.mem_toList] at hb; have := (ho.lt b hb).2; have := xs.size; omega, ?_⟩
        -- tail
        refine lexNil (fun K5 hX5 hM5 hN5 => ?_)
        have x5 := (((kk.trans k3).trans xs).mine hK4 (by simp; omega)).trans hX5
        replace b2 := (b2).ext hX5
        have r2 := (Own.rd (((ho.ext xs).keep hK4 (fun b hb => by simpa using nn b hb)).ext hX5)).2
        clear hX68 hX78 k1 k3 kk xs hXs hK4 hX5 hN5 ho hc nn
        replace hE := hE.trans x5
        replace hB2 := hB2.ext x5
        replace hB3 := hB3.ext x5
        replace r1 := r1.ext x5
        replace b1 := b1.ext x5
        clear x5
        obtain ⟨⟨ml, mo⟩, hmz⟩ : ∃ r, modZ ⟨z.N, L2⟩ = r := ⟨_, rfl⟩
        rw [hmz] at iy in_
        refine seqQ rfl rfl (yAssign (v := .int _ _) rfl rfl) ?_
        refine seqNil ?_
        refine hF13 _ _ ?_; clear hF13
        refine wpSeq fun F14 hF14 => ?_
        refine wpRegion ?_
        refine seqQ rfl rfl (yLoadB b2 rfl Try.underlying27 rfl Try.sizeOf27 rfl) ?_
        -- e slot 83: call F17<farandole/zone.Model> t82
        refine seqE rfl rfl (stepCall rfl Try.call17 rfl ?_)
        have hc := model_c ⟨z.N, L2⟩ A2 c2 _ r2 h8
        rw [hmz] at hc
        dsimp only at hc
        refine hc.mono ?_
        rintro v K1 ⟨k1, u, rfl, ho⟩
        obtain ⟨A3, c3, rfl, -, rm, -⟩ := ho.form
        replace hE := hE.trans k1
        replace hB2 := hB2.ext k1
        replace hB3 := hB3.ext k1
        replace r1 := r1.ext k1
        replace b1 := b1.ext k1
        clear k1 r2 b2 ho hc
        refine seqQ rfl rfl (yMove (v := .tuple _) rfl rfl) ?_
        refine seqQ rfl rfl (yExtract (v := .slice _ _ _) rfl rfl rfl) ?_
        refine seqQ rfl rfl (yExtract (v := .bool _) rfl rfl rfl) ?_
        refine seqQ rfl rfl (yAssign (v := .slice _ _ _) rfl rfl) ?_
        refine seqQ rfl rfl (yAssign (v := .bool _) rfl rfl) ?_
        refine seqNil ?_
        refine hF14 _ _ ?_; clear hF14
        refine wpSeq fun F15 hF15 => ?_
        refine wpSeq fun F16 hF16 => ?_
        refine wpRegion ?_
        refine seqQ rfl rfl (yMove (v := .int _ _) rfl rfl) ?_
        refine seqQ rfl rfl (yNeq rfl rfl rfl) ?_
        refine seqQ rfl rfl (yMove (v := .bool false) rfl rfl) ?_
        refine seqQ rfl rfl (yMove (v := .int _ _) rfl rfl) ?_
        refine seqQ rfl rfl (yNeq rfl rfl rfl) ?_
        refine seqQ rfl rfl (yPickF (v := .bool _) rfl rfl rfl) ?_
        refine seqNil ?_
        refine hF16 _ _ ?_; clear hF16
        -- if t91
        refine wpF rfl ?_
        refine wpSkip ?_
        refine hF15 _ _ ?_; clear hF15
        refine wpSeq fun F17 hF17 => ?_
        refine wpSeq fun F18 hF18 => ?_
        refine wpRegionD Try_mixed [.q, .e, .q, .e] 3 [0, 1, 0, 7] [] (by kernel_rfl) _ rfl [0, 1, 2] rfl (by simp) ?_
        refine lexQ rfl rfl rfl rfl (fun H hM => (yLoadB (hB2.ext hM.ext) rfl Try.underlying24 rfl Try.sizeOf24 rfl)) ?_
        -- e slot 93: call F15<farandole/farandolelaw13.own> t92
        refine lexX0 rfl rfl rfl rfl rfl (by simp) (fun hM93 => stepCall rfl Try.call15 rfl ?_)
        refine (own_c z A ca _).mono ?_
        rintro v K2 ⟨rfl, k2⟩
        refine ⟨k2, fun _ => ?_⟩
        refine lexQ rfl rfl rfl rfl (fun H hM => (yLoadB (hB3.ext hM.ext) rfl Try.underlying43 rfl Try.sizeOf43 rfl)) ?_
        -- tail
        refine lexNil0 rfl (fun hM => ?_)
        -- e slot 95: call F29<farandole/zone.Implies> t93 t94
        refine seqE rfl rfl (stepCall rfl Try.call29 rfl ?_)
        refine (implies_c z X Y C A ca _ ((hA.ext hE).ext k2) h8).mono ?_
        rintro v K3 ⟨k3, rfl⟩
        have x5 := k2.trans k3
        replace hE := hE.trans x5
        replace hB2 := hB2.ext x5
        replace r1 := r1.ext x5
        replace b1 := b1.ext x5
        replace rm := rm.ext x5
        clear k2 k3 x5 hB3
        refine seqNil ?_
        refine hF18 _ _ ?_; clear hF18
        -- if t95
        refine wpCond rfl (fun himp => ?_) (fun himp => ?_)
        · skip
          obtain ⟨y1, y2, y3⟩ := iy himp
          dsimp only at y1
          subst y1
          refine wpSeq fun F19 hF19 => ?_
          refine wpRegionD Try_mixed [.q, .q, .q, .q, .e, .q, .e, .q, .q, .q, .q, .e, .e, .q, .q] 12 [0, 1, 3, 7, 15, 7, 63, 127, 255, 511, 511, 1535, 4095, 8191, 16383] [] (by kernel_rfl) _ rfl [0, 1, 2, 3, 4, 5, 6, 7, 8, 9, 10, 11] rfl (by simp) ?_
          refine lexQ rfl rfl rfl rfl (fun H hM => (yMove (v := .bool _) rfl rfl)) ?_
          refine lexQ rfl rfl rfl rfl (fun H hM => (yNot rfl rfl)) ?_
          refine lexQ rfl rfl rfl rfl (fun H hM => (yMove (v := .bool true) rfl rfl)) ?_
          refine lexQ rfl rfl rfl rfl (fun H hM => (yLoadB (hB2.ext hM.ext) rfl Try.underlying24 rfl Try.sizeOf24 rfl)) ?_
          -- e slot 100: call F15<farandole/farandolelaw13.own> t99
          refine lexX0 rfl rfl rfl rfl rfl (by simp) (fun hM100 => stepCall rfl Try.call15 rfl ?_)
          refine (own_c z A ca _).mono ?_
          rintro v K4 ⟨rfl, kE⟩
          refine ⟨kE, fun _ => ?_⟩
          refine lexQ rfl rfl rfl rfl (fun H hM => (yLoadB (b1.ext hM.ext) rfl Try.underlying27 rfl Try.sizeOf27 rfl)) ?_
          -- e slot 102: call F34<farandole/zone.Sub> t100 t101
          refine lexX0 rfl rfl rfl rfl rfl (by simp) (fun hM102 => stepCall rfl Try.call34 rfl ?_)
          refine (sub_c z ⟨z.N, L1⟩ A A1 ca c1 _ ((hA.ext hE).ext kE) (r1.ext kE) h8).mono ?_
          rintro v K5 ⟨rfl, k5⟩
          refine ⟨k5, fun _ => ?_⟩
          replace kE := kE.trans k5
          rw [y2]
          refine lexQ rfl rfl rfl rfl (fun H hM => (yPickT (v := .bool _) rfl rfl rfl)) ?_
          refine lexQ rfl rfl rfl rfl (fun H hM => (yMove (v := .bool true) rfl rfl)) ?_
          refine lexQ rfl rfl rfl rfl (fun H hM => (yLoadB (b1.ext hM.ext) rfl Try.underlying27 rfl Try.sizeOf27 rfl)) ?_
          refine lexQ rfl rfl rfl rfl (fun H hM => (yLoadB (hB2.ext hM.ext) rfl Try.underlying24 rfl Try.sizeOf24 rfl)) ?_
          -- e slot 107: call F15<farandole/farandolelaw13.own> t106
          refine lexX0 rfl rfl rfl rfl rfl (by simp) (fun hM107 => stepCall rfl Try.call15 rfl ?_)
          refine (own_c z A ca _).mono ?_
          rintro v K6 ⟨rfl, k6⟩
          refine ⟨k6, fun _ => ?_⟩
          replace kE := kE.trans k6
          -- tail
          refine lexNil0 rfl (fun hM => ?_)
          -- e slot 108: call F34<farandole/zone.Sub> t105 t107
          refine seqE rfl rfl (stepCall rfl Try.call34 rfl ?_)
          refine (sub_c ⟨z.N, L1⟩ z A1 A c1 ca _ (r1.ext kE) ((hA.ext hE).ext kE) h8).mono ?_
          rintro v K7 ⟨rfl, k7⟩
          rw [y3]
          refine seqQ rfl rfl (yPickT (v := .bool _) rfl rfl rfl) ?_
          refine seqQ rfl rfl (yAssign (v := .bool _) rfl rfl) ?_
          refine seqNil ?_
          refine hF19 _ _ ?_; clear hF19
          -- ret
          refine wpRet (fin1 (v := .bool _) rfl rfl ?_)
          exact ⟨rfl, (hE.trans kE).trans k7⟩
        · skip
          obtain ⟨m, n1, n2, n3⟩ := in_ himp
          injection n1 with n1 n4
          subst n1 n4
          refine wpSkip ?_
          refine hF17 _ _ ?_; clear hF17
          refine wpSeq fun F20 hF20 => ?_
          refine wpRegion ?_
          refine seqQ rfl rfl (yMove (v := .bool _) rfl rfl) ?_
          refine seqQ rfl rfl (yMove (v := .bool true) rfl rfl) ?_
          refine seqQ rfl rfl (yLoadB hB2 rfl Try.underlying24 rfl Try.sizeOf24 rfl) ?_
          -- e slot 113: call F15<farandole/farandolelaw13.own> t112
          refine seqE rfl rfl (stepCall rfl Try.call15 rfl ?_)
          refine (own_c z A ca _).mono ?_
          rintro v K4 ⟨rfl, kE⟩
          refine seqQ rfl rfl (yMove (v := .slice _ _ _) rfl rfl) ?_
          -- e slot 115: call F31<farandole/zone.Holds> t113 t114
          refine seqE rfl rfl (stepCall rfl Try.call31 rfl ?_)
          refine (holds_c z ml A A3 ca c3 _ ((hA.ext hE).ext kE) (rm.ext kE)).mono ?_
          rintro v K5 ⟨rfl, k5⟩
          replace kE := kE.trans k5
          rw [decide_eq_true n2]
          refine seqQ rfl rfl (yPickT (v := .bool _) rfl rfl rfl) ?_
          refine seqQ rfl rfl (yMove (v := .bool true) rfl rfl) ?_
          refine seqQ rfl rfl (yLoadB (b1.ext kE) rfl Try.underlying27 rfl Try.sizeOf27 rfl) ?_
          refine seqQ rfl rfl (yMove (v := .slice _ _ _) rfl rfl) ?_
          -- e slot 120: call F31<farandole/zone.Holds> t118 t119
          refine seqE rfl rfl (stepCall rfl Try.call31 rfl ?_)
          refine (holds_c ⟨z.N, L1⟩ ml A1 A3 c1 c3 _ (r1.ext kE) (rm.ext kE)).mono ?_
          rintro v K6 ⟨rfl, k6⟩
          rw [decide_eq_false n3]
          refine seqQ rfl rfl (yNot rfl rfl) ?_
          refine seqQ rfl rfl (yPickT (v := .bool _) rfl rfl rfl) ?_
          refine seqQ rfl rfl (yAssign (v := .bool _) rfl rfl) ?_
          refine seqNil ?_
          refine hF20 _ _ ?_; clear hF20
          -- ret
          refine wpRet (fin1 (v := .bool _) rfl rfl ?_)
          exact ⟨rfl, (hE.trans kE).trans k6⟩
set_option maxRecDepth 100000 in
theorem opn_diff (W : World) : Opn Try.prog W 43 3 (fun x : Int × Int × Int => [.int .i64 x.1, .int .i64 x.2.1, .int .i64 x.2.2]) (fun x => In64 x.1 ∧ In64 x.2.1 ∧ In64 x.2.2) :=
  (opn_struct Try.underlying43 (by kernel_rfl) (opnF_cons rfl (opn_int Try.underlying3 (by kernel_rfl)) (opnF_cons rfl (opn_int Try.underlying3 (by kernel_rfl)) (opnF_cons rfl (opn_int Try.underlying3 (by kernel_rfl)) (opnF_nil rfl))))).map
    (fun a : Int × Int × Int × Unit => (a.1, a.2.1, a.2.2.1)) (fun _ => rfl) (fun a ha => ⟨ha.1, ha.2.1, ha.2.2.1⟩)
set_option maxRecDepth 100000 in
set_option maxRecDepth 100000 in
theorem zoneImplies_lifted (os : Os) (started : os.Started) (H : Type) (enc : TypeId × Value → H) :
    ReturnsInHanded {} Try.checked os 8 .any (Rows.zoneImpliesSpec.pre6 enc Try.prog Try.f8 Rows.zoneImpliesRow.domain false) (Rows.zoneImpliesSpec.post enc Try.prog Try.f8 false true false false) := by
  refine law_lifted started Rows.zoneImpliesSpec rfl (by kernel_rfl) Try.func8 rfl
    (fun ds h => by match ds, h with | [_, _], _ => rfl) (of_decide_eq_true (by kernel_rfl))
    (ChangeSpec.witness6 (enc := enc) (C := Try.checked) false ⟨#[], #[.agg #[.int .i64 0, .slice none 0 0], .agg #[.int .i64 0, .int .i64 0, .int .i64 0]], []⟩ 8 (by kernel_rfl) (by kernel_rfl) (by kernel_rfl) (by kernel_rfl)) ?_
  intro W base args ds p hval hA
  rw [Try.params8] at hA hval
  obtain ⟨v0, v1, d0, d1, p0, p1, rfl, rfl, rfl, h0, h1⟩ := trodAll_two hA
  have g0 := hval 0 _ v0 rfl rfl
  have g1 := hval 1 _ v1 rfl rfl
  obtain ⟨⟨z, A, ca⟩, rfl, kA, -⟩ := (opn_zn W).agg Try.underlying24 rfl g0 h0
  obtain ⟨⟨X, Y, C⟩, rfl, -⟩ := (opn_diff W).agg Try.underlying43 rfl g1 h1
  exact zImplies_walk z X Y C A ca W.heap kA
set_option maxRecDepth 100000 in
theorem zoneImplies_holds : Rows.ZoneImpliesSaid :=
  OpenClaim.holds_of_wide 8 Try.f8 rfl rfl rfl rfl rfl rfl rfl ⟨rfl, rfl, rfl, rfl, rfl⟩ rfl rfl rfl rfl rfl (by kernel_rfl) Try.func8 (by kernel_rfl)
    (of_decide_eq_true (by kernel_rfl)) (by unfold Func.isWrapper; first | (rw [if_pos (by decide +kernel)]; kernel_rfl) | (rw [if_neg (by decide +kernel)]; exact ⟨rfl, rfl⟩))
    (fun os started H enc _ => zoneImplies_lifted os started H enc)
end Go.Proofs.Ytjkbkmbblidipaa
