/- ZoneHolds: Holds reports the specified result for any zone and up to 10 values, and the same for the closed zone. Conditions: none beyond the statement's. -/
import Derived.Test.YtjkbkmbblidipaaZ13
import Derived.Test.YtjkbkmbblidipaaZA
namespace Go.Proofs.Ytjkbkmbblidipaa
open Go.ChangeShapes Go.WideShapes Go.ChangeAt Go.RowKit Go.Deep

set_option maxRecDepth 100000 in
theorem closeZ_holds {z zc : Zn} (h : closeZ z = (zc, true)) (vs : List Int) : HoldsP zc vs ↔ HoldsP z vs := by
  rcases closeZ_cases z with ⟨e, _⟩ | ⟨L, e, hv, hB⟩
  · rw [e] at h
    exact absurd (congrArg Prod.snd h) (by simp)
  · rw [e] at h
    injection h with h1 h2
    subst h1
    exact hB.holds hv vs
set_option maxRecDepth 100000 in
theorem closeZ_hold {z zc : Zn} {ok : Bool} (h : closeZ z = (zc, ok)) {vs : List Int} (hh : HoldsP z vs) : ok = true := by
  obtain ⟨L, e, _⟩ := hh.ok
  rw [e] at h
  exact (congrArg Prod.snd h).symm
set_option maxRecDepth 100000 in
theorem zHolds_walk (z : Zn) (vs : List Int) (A B : Option Addr) (ca cb : Nat) (H : Heap) (hA : Rd eInt H A z.b) (hV : Rd eInt H B vs) :
    CallsH Try.prog 5 [.agg (znC z A ca).toArray, .slice B vs.length cb] H fun v H' => v = .bool true ∧ Ext H H' := by
  obtain ⟨⟨zc, ok⟩, hcz⟩ : ∃ r, closeZ z = r := ⟨_, rfl⟩
  refine callsH_of Try.func5 rfl Try.ntmps5 (Nat.le_of_ble_eq_true rfl) ?_
  refine wpSeq fun F1 hF1 => ?_
  refine wpRegion ?_
  refine seqN rfl rfl (nBoxA rfl rfl) (fun g2 H2 hx2 hB2 hg2 hl2 => ?_)
  refine seqQ rfl rfl (yAssign (v := .bool _) rfl rfl) ?_
  refine seqNil ?_
  refine hF1 _ _ ?_; clear hF1
  refine wpSeq fun F2 hF2 => ?_
  refine wpSeq fun F3 hF3 => ?_
  refine wpRegion ?_
  -- e slot 8: call F12<farandole/farandolelaw13.awake> 
  refine seqE rfl rfl (stepCall rfl Try.call12 rfl ?_)
  refine (awake_c _).mono ?_
  rintro v Ha ⟨rfl, hxa⟩
  refine seqQ rfl rfl (yNot rfl rfl) ?_
  refine seqQ rfl rfl (yMove (v := .bool false) rfl rfl) ?_
  refine seqQ rfl rfl (yLoadB (hB2.ext hxa) rfl Try.underlying24 rfl Try.sizeOf24 rfl) ?_
  -- e slot 12: call F13<farandole/farandoleref13.Few> t11
  refine seqE rfl rfl (stepCall rfl Try.call13 rfl ?_)
  refine (few_c z A ca _).mono ?_
  rintro v Hf ⟨rfl, hxf⟩
  have hE := (hx2.trans hxa).trans hxf
  replace hB2 := (hB2.ext hxa).ext hxf
  clear hx2 hxa hxf
  refine seqQ rfl rfl (yNot rfl rfl) ?_
  refine seqQ rfl rfl (yPickF (v := .bool _) rfl rfl rfl) ?_
  -- guard t15
  refine seqMeet 12 [15, 16, 17, 18, 19] 19 (decide (¬ (z.N ≤ 8 ∧ z.b.length ≤ 100) ∨ 10 < (vs.length : Int))) (fun hm4 => ?_) (fun J4 => ?_)
  · skip
    first | refine seqG rfl rfl rfl rfl (fun h15 => ?_) (fun h15 => ?_) | refine seqGB rfl rfl rfl rfl (fun h15 => ?_) (fun h15 => ?_)
    · skip
      refine seqU rfl rfl ?_
      refine seqU rfl rfl ?_
      refine seqU rfl rfl ?_
      refine seqQ rfl rfl (yPickT (v := .bool _) rfl rfl rfl) ?_
      exact hm4 _ (by repeat (first | (with_reducible exact Agree.refl _ _) | refine Agree.upd ?_ rfl | refine Agree.over ?_ rfl)) (by show Value.bool _ = Value.bool _; congr 1; grind)
    · skip
      refine seqQ rfl rfl (yMove (v := .slice _ _ _) rfl rfl) ?_
      refine seqQ rfl rfl (yLen rfl Try.underlying22 rfl) ?_
      refine seqQ rfl rfl (yGtr rfl rfl rfl) ?_
      refine seqQ rfl rfl (yPickF (v := .bool _) rfl rfl rfl) ?_
      exact hm4 _ (by repeat (first | (with_reducible exact Agree.refl _ _) | refine Agree.upd ?_ rfl | refine Agree.over ?_ rfl)) (by show Value.bool _ = Value.bool _; congr 1; grind)
  refine seqNil ?_
  refine hF3 _ _ ?_; clear hF3
  -- if t19
  refine wpIf rfl (fun hf => ?_) (fun hf => ?_)
  · skip
    refine wpSeq fun F5 hF5 => ?_
    refine wpRegion ?_
    -- e slot 20: call F12<farandole/farandolelaw13.awake> 
    refine seqE rfl rfl (stepCall rfl Try.call12 rfl ?_)
    refine (awake_c _).mono ?_
    rintro v Ha ⟨rfl, hxa⟩
    refine seqQ rfl rfl (yAssign (v := .bool _) rfl rfl) ?_
    refine seqNil ?_
    refine hF5 _ _ ?_; clear hF5
    -- ret
    refine wpRet (fin1 (v := .bool _) rfl rfl ?_)
    exact ⟨rfl, hE.trans hxa⟩
  · skip
    have h8 : z.N ≤ 8 := by omega
    have hl : z.b.length ≤ 100 := by omega
    refine wpSkip ?_
    refine hF2 _ _ ?_; clear hF2
    refine wpSeq fun F6 hF6 => ?_
    refine wpRegion ?_
    refine seqQ rfl rfl (yLoadB hB2 rfl Try.underlying24 rfl Try.sizeOf24 rfl) ?_
    -- e slot 22: call F15<farandole/farandolelaw13.own> t21
    refine seqE rfl rfl (stepCall rfl Try.call15 rfl ?_)
    refine (own_c z A ca _).mono ?_
    rintro v H1 ⟨rfl, hx1⟩
    refine seqQ rfl rfl (yMove (v := .slice _ _ _) rfl rfl) ?_
    -- e slot 24: call F31<farandole/zone.Holds> t22 t23
    refine seqE rfl rfl (stepCall rfl Try.call31 rfl ?_)
    refine (holds_c z vs A B ca cb _ ((hA.ext hE).ext hx1) ((hV.ext hE).ext hx1)).mono ?_
    rintro v H3 ⟨rfl, hx3⟩
    have x3 := hx1.trans hx3
    replace hB2 := hB2.ext x3
    replace hE := hE.trans x3
    clear hx1 hx3 x3
    refine seqQ rfl rfl (yAssign (v := .bool _) rfl rfl) ?_
    refine seqNil ?_
    refine hF6 _ _ ?_; clear hF6
    refine wpSeq fun F7 hF7 => ?_
    refine wpRegion ?_
    refine seqQ rfl rfl (yLoadB hB2 rfl Try.underlying24 rfl Try.sizeOf24 rfl) ?_
    -- e slot 27: call F15<farandole/farandolelaw13.own> t26
    refine seqE rfl rfl (stepCall rfl Try.call15 rfl ?_)
    refine (own_c z A ca _).mono ?_
    rintro v H1 ⟨rfl, hx1⟩
    -- e slot 28: call F14<farandole/zone.Close> t27
    refine seqE rfl rfl (stepCall rfl Try.call14 rfl ?_)
    have hc := close_c z A ca _ ((hA.ext hE).ext hx1) h8
    rw [hcz] at hc
    dsimp only at hc
    refine hc.mono ?_
    rintro v H4 ⟨hx3, u, rfl, A1, c1, rfl, ho1⟩
    have r1' := (Own.rd ho1).2
    refine seqQ rfl rfl (yMove (v := .tuple _) rfl rfl) ?_
    refine seqQ rfl rfl (yExtract (v := .agg _) rfl rfl rfl) ?_
    refine seqQ rfl rfl (yExtract (v := .bool _) rfl rfl rfl) ?_
    refine seqN rfl rfl (nAlloc rfl Try.zeroValue27 rfl) (fun g6 H6 hx6 hB6 hg6 hl6 => ?_)
    -- e slot None: store T27 t6 t29
    refine seqE0 rfl rfl (stepStoreB rfl (by kernel_rfl) rfl rfl rfl hB6 rfl ?_)
    intro H5 hB5 hK5
    have x5 := afterStore (hx1.trans hx3) hx6 hg6 hK5
    have rdc := rdStore r1' hx6 hg6 hK5
    replace hB2 := hB2.ext x5
    replace hE := hE.trans x5
    clear hx1 hx3 hx6 hK5 x5 ho1 r1' hc hB6
    refine seqQ rfl rfl (yAssign (v := .bool _) rfl rfl) ?_
    refine seqNil ?_
    refine hF7 _ _ ?_; clear hF7
    refine wpSeq fun F8 hF8 => ?_
    refine wpRegion ?_
    refine seqQ rfl rfl (yMove (v := .bool _) rfl rfl) ?_
    refine seqQ rfl rfl (yLoadB hB2 rfl Try.underlying24 rfl Try.sizeOf24 rfl) ?_
    refine seqQ rfl rfl (yMove (v := .slice _ _ _) rfl rfl) ?_
    -- e slot 34: call F32<farandole/farandoleref13.Holds> t32 t33
    refine seqE rfl rfl (stepCall rfl Try.call32 rfl ?_)
    refine (rHolds_c z vs A B ca cb _ (hA.ext hE) (hV.ext hE)).mono ?_
    rintro v H7 ⟨rfl, hx7⟩
    replace hE := hE.trans hx7
    replace hB5 := hB5.ext hx7
    replace rdc := rdc.ext hx7
    clear hx7 hB2
    refine seqQ rfl rfl (yEqlB rfl Try.underlying4 rfl rfl) ?_
    -- guard t36
    rw [eqB]
    by_cases hh : HoldsP z vs
    · skip
      obtain rfl := closeZ_hold hcz hh
      rw [decide_eq_true hh]
      refine seqQ rfl rfl (yMove (v := .bool true) rfl rfl) ?_
      refine seqQ rfl rfl (yMove (v := .bool _) rfl rfl) ?_
      refine seqQ rfl rfl (yNot rfl rfl) ?_
      refine seqQ rfl rfl (yMove (v := .bool false) rfl rfl) ?_
      refine seqQ rfl rfl (yMove (v := .bool _) rfl rfl) ?_
      refine seqQ rfl rfl (yPickF (v := .bool _) rfl rfl rfl) ?_
      refine seqQ rfl rfl (yPickT (v := .bool _) rfl rfl rfl) ?_
      refine seqQ rfl rfl (yMove (v := .bool true) rfl rfl) ?_
      refine seqQ rfl rfl (yMove (v := .bool _) rfl rfl) ?_
      refine seqQ rfl rfl (yNot rfl rfl) ?_
      refine seqQ rfl rfl (yMove (v := .bool false) rfl rfl) ?_
      refine seqQ rfl rfl (yLoadB hB5 rfl Try.underlying27 rfl Try.sizeOf27 rfl) ?_
      refine seqQ rfl rfl (yMove (v := .slice _ _ _) rfl rfl) ?_
      -- e slot 49: call F31<farandole/zone.Holds> t47 t48
      refine seqE rfl rfl (stepCall rfl Try.call31 rfl ?_)
      refine (holds_c zc vs A1 B c1 cb _ rdc (hV.ext hE)).mono ?_
      rintro v H8 ⟨rfl, hx8⟩
      rw [decide_eq_true ((closeZ_holds hcz vs).2 hh)]
      refine seqQ rfl rfl (yMove (v := .bool _) rfl rfl) ?_
      refine seqQ rfl rfl (yEqlB rfl Try.underlying4 rfl rfl) ?_
      refine seqQ rfl rfl (yPickF (v := .bool _) rfl rfl rfl) ?_
      refine seqQ rfl rfl (yPickT (v := .bool _) rfl rfl rfl) ?_
      refine seqQ rfl rfl (yAssign (v := .bool _) rfl rfl) ?_
      refine seqNil ?_
      refine hF8 _ _ ?_; clear hF8
      -- ret
      refine wpRet (fin1 (v := .bool _) rfl rfl ?_)
      exact ⟨rfl, hE.trans hx8⟩
    · skip
      rw [decide_eq_false hh]
      cases ok
      · skip
        refine seqQ rfl rfl (yMove (v := .bool true) rfl rfl) ?_
        refine seqQ rfl rfl (yMove (v := .bool _) rfl rfl) ?_
        refine seqQ rfl rfl (yNot rfl rfl) ?_
        refine seqQ rfl rfl (yMove (v := .bool true) rfl rfl) ?_
        refine seqU rfl rfl ?_
        refine seqQ rfl rfl (yPickT (v := .bool _) rfl rfl rfl) ?_
        refine seqQ rfl rfl (yPickT (v := .bool _) rfl rfl rfl) ?_
        refine seqQ rfl rfl (yMove (v := .bool true) rfl rfl) ?_
        refine seqQ rfl rfl (yMove (v := .bool _) rfl rfl) ?_
        refine seqQ rfl rfl (yNot rfl rfl) ?_
        refine seqQ rfl rfl (yMove (v := .bool true) rfl rfl) ?_
        refine seqU rfl rfl ?_
        refine seqU rfl rfl ?_
        refine seqU rfl rfl ?_
        refine seqU rfl rfl ?_
        refine seqU rfl rfl ?_
        refine seqQ rfl rfl (yPickT (v := .bool _) rfl rfl rfl) ?_
        refine seqQ rfl rfl (yPickT (v := .bool _) rfl rfl rfl) ?_
        refine seqQ rfl rfl (yAssign (v := .bool _) rfl rfl) ?_
        refine seqNil ?_
        refine hF8 _ _ ?_; clear hF8
        -- ret
        refine wpRet (fin1 (v := .bool _) rfl rfl ?_)
        exact ⟨rfl, hE⟩
      · skip
        refine seqQ rfl rfl (yMove (v := .bool true) rfl rfl) ?_
        refine seqQ rfl rfl (yMove (v := .bool _) rfl rfl) ?_
        refine seqQ rfl rfl (yNot rfl rfl) ?_
        refine seqQ rfl rfl (yMove (v := .bool true) rfl rfl) ?_
        refine seqU rfl rfl ?_
        refine seqQ rfl rfl (yPickT (v := .bool _) rfl rfl rfl) ?_
        refine seqQ rfl rfl (yPickT (v := .bool _) rfl rfl rfl) ?_
        refine seqQ rfl rfl (yMove (v := .bool true) rfl rfl) ?_
        refine seqQ rfl rfl (yMove (v := .bool _) rfl rfl) ?_
        refine seqQ rfl rfl (yNot rfl rfl) ?_
        refine seqQ rfl rfl (yMove (v := .bool false) rfl rfl) ?_
        refine seqQ rfl rfl (yLoadB hB5 rfl Try.underlying27 rfl Try.sizeOf27 rfl) ?_
        refine seqQ rfl rfl (yMove (v := .slice _ _ _) rfl rfl) ?_
        -- e slot 49: call F31<farandole/zone.Holds> t47 t48
        refine seqE rfl rfl (stepCall rfl Try.call31 rfl ?_)
        refine (holds_c zc vs A1 B c1 cb _ rdc (hV.ext hE)).mono ?_
        rintro v H8 ⟨rfl, hx8⟩
        rw [decide_eq_false (fun h => hh ((closeZ_holds hcz vs).1 h))]
        refine seqQ rfl rfl (yMove (v := .bool _) rfl rfl) ?_
        refine seqQ rfl rfl (yEqlB rfl Try.underlying4 rfl rfl) ?_
        refine seqQ rfl rfl (yPickF (v := .bool _) rfl rfl rfl) ?_
        refine seqQ rfl rfl (yPickT (v := .bool _) rfl rfl rfl) ?_
        refine seqQ rfl rfl (yAssign (v := .bool _) rfl rfl) ?_
        refine seqNil ?_
        refine hF8 _ _ ?_; clear hF8
        -- ret
        refine wpRet (fin1 (v := .bool _) rfl rfl ?_)
        exact ⟨rfl, hE.trans hx8⟩
set_option maxRecDepth 100000 in
set_option maxRecDepth 100000 in
theorem zoneHolds_lifted (os : Os) (started : os.Started) (H : Type) (enc : TypeId × Value → H) :
    ReturnsInHanded {} Try.checked os 5 .any (Rows.zoneHoldsSpec.pre6 enc Try.prog Try.f5 Rows.zoneHoldsRow.domain false) (Rows.zoneHoldsSpec.post enc Try.prog Try.f5 false true false false) := by
  refine law_lifted started Rows.zoneHoldsSpec rfl (by kernel_rfl) Try.func5 rfl
    (fun ds h => by match ds, h with | [_, _], _ => rfl) (of_decide_eq_true (by kernel_rfl))
    (ChangeSpec.witness6 (enc := enc) (C := Try.checked) false ⟨#[], #[.agg #[.int .i64 0, .slice none 0 0], .slice none 0 0], []⟩ 8 (by kernel_rfl) (by kernel_rfl) (by kernel_rfl) (by kernel_rfl)) ?_
  intro W base args ds p hval hA
  rw [Try.params5] at hA hval
  obtain ⟨v0, v1, d0, d1, p0, p1, rfl, rfl, rfl, h0, h1⟩ := trodAll_two hA
  have g0 := hval 0 _ v0 rfl rfl
  have g1 := hval 1 _ v1 rfl rfl
  obtain ⟨⟨z, A, ca⟩, rfl, kA, -⟩ := (opn_zn W).agg Try.underlying24 rfl g0 h0
  obtain ⟨⟨B, cb, vs⟩, rfl, kB, -⟩ := (opn_ints W).one (one_slice Try.underlying22 g1) h1
  exact zHolds_walk z vs A B ca cb W.heap kA kB
set_option maxRecDepth 100000 in
theorem zoneHolds_holds : Rows.ZoneHoldsSaid :=
  OpenClaim.holds_of_wide 5 Try.f5 rfl rfl rfl rfl rfl rfl rfl ⟨rfl, rfl, rfl, rfl, rfl⟩ rfl rfl rfl rfl rfl (by kernel_rfl) Try.func5 (by kernel_rfl)
    (of_decide_eq_true (by kernel_rfl)) (by unfold Func.isWrapper; first | (rw [if_pos (by decide +kernel)]; kernel_rfl) | (rw [if_neg (by decide +kernel)]; exact ⟨rfl, rfl⟩))
    (fun os started H enc _ => zoneHolds_lifted os started H enc)
end Go.Proofs.Ytjkbkmbblidipaa
