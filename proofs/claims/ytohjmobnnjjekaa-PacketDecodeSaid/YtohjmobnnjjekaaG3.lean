/- The document's packets: Encode, AckOf. -/
import Derived.Test.YtohjmobnnjjekaaG2
import Derived.Test.YtohjmobnnjjekaaQV
import Derived.Test.YtohjmobnnjjekaaS5
namespace Go.Proofs.Ytohjmobnnjjekaa
open Go.RowKit

set_option maxRecDepth 100000 in
theorem rEncode_c (p : Pk) (A B : Option Addr) (ca cb : Nat) (H : Heap) (hA : Rd eVal H A p.vals) (hB : Rd eInt H B p.clk) (h64 : ∀ v ∈ p.vals, In64 v.1 ∧ In64 v.2.1) (hsz : ∀ v ∈ p.vals, v.2.2.size ≤ 1000000) :
    CallsH Try.prog 12 [.agg (pkC p A ca B cb).toArray] H fun v H' => ∃ C cc, v = .tuple #[.slice C (encP p).2.length cc, .int .i64 (encP p).1] ∧ Own eByte 5 H' H.size (.slice C (encP p).2.length cc) (encP p).2 ∧ Ext H H' := by
  refine callsH_of Try.func12 rfl Try.ntmps12 (Nat.le_of_ble_eq_true rfl) ?_
  refine wpSeq fun F1 hF1 => ?_
  refine wpRegion ?_
  refine seqN rfl rfl (nBoxA rfl rfl) (fun g1 H1 hx1 hB1 hg1 hl1 => ?_)
  refine seqQ rfl rfl (yAssign (v := .slice _ _ _) rfl rfl) ?_
  refine seqQ rfl rfl (yAssign (v := .int _ _) rfl rfl) ?_
  refine seqNil ?_
  refine hF1 _ _ ?_; clear hF1
  refine wpSeq fun F2 hF2 => ?_
  refine wpSeq fun F3 hF3 => ?_
  refine wpRegion ?_
  refine seqQ rfl rfl (yLoadB hB1 rfl Try.underlying25 rfl Try.sizeOf25 rfl) ?_
  -- e slot 8: call F17<farandole/farandoleref46.Valid> t7
  refine seqE rfl rfl (stepCall rfl Try.call17 rfl ?_)
  refine (rValid_c p A B ca cb H1 (hA.ext hx1) (hB.ext hx1)).mono ?_
  rintro v H2 ⟨rfl, hx2⟩
  have hB2 := hB1.ext hx2
  have hE := hx1.trans hx2
  refine seqQ rfl rfl (yNot rfl rfl) ?_
  refine seqNil ?_
  refine hF3 _ _ ?_; clear hF3
  -- if t9
  refine wpCond rfl (fun hv => ?_) (fun hv => ?_)
  · skip
    have hv : ¬ ValidP p := by simpa using hv
    refine wpSeq fun F4 hF4 => ?_
    refine wpRegion ?_
    refine seqQ rfl rfl (yAssign (v := .slice _ _ _) rfl rfl) ?_
    refine seqQ rfl rfl (yAssign (v := .int _ _) rfl rfl) ?_
    refine seqNil ?_
    refine hF4 _ _ ?_; clear hF4
    -- ret
    refine wpRet (fin2 (v := .slice _ _ _) (v' := .int _ _) rfl rfl rfl ?_)
    have e : encP p = (1, []) := if_neg hv
    rw [e]
    exact ⟨none, 0, rfl, Own.nil _ _, hE⟩
  · skip
    have hv : ValidP p := by simpa using hv
    have e : encP p = (0, sealed (encPk p)) := if_pos hv
    have hf := hv.few
    have hh := hdrs_ok hf
    have hlen : (hdrs p).length = 7 := rfl
    refine wpSkip ?_
    refine hF2 _ _ ?_; clear hF2
    refine wpSeq fun F5 hF5 => ?_
    refine wpRegion ?_
    refine seqQ rfl rfl (yAssign (v := .slice _ _ _) rfl rfl) ?_
    refine seqNil ?_
    refine hF5 _ _ ?_; clear hF5
    refine wpSeq fun F6 hF6 => ?_
    refine wpRegion ?_
    refine seqQ rfl rfl (yFieldAddr rfl Try.underlying25 rfl Try.sizeOf3 rfl rfl) ?_
    refine seqQ rfl rfl (yLoad rfl Try.underlying3 rfl rfl (hB2.cell rfl)) ?_
    refine seqQ rfl rfl (yFieldAddr rfl Try.underlying25 rfl Try.sizeOf3 rfl rfl) ?_
    refine seqQ rfl rfl (yLoad rfl Try.underlying3 rfl rfl (hB2.cell rfl)) ?_
    refine seqQ rfl rfl (yFieldAddr rfl Try.underlying25 rfl Try.sizeOf3 rfl rfl) ?_
    refine seqQ rfl rfl (yLoad rfl Try.underlying3 rfl rfl (hB2.cell rfl)) ?_
    refine seqQ rfl rfl (yFieldAddr rfl Try.underlying25 rfl Try.sizeOf3 rfl rfl) ?_
    refine seqQ rfl rfl (yLoad rfl Try.underlying3 rfl rfl (hB2.cell rfl)) ?_
    refine seqQ rfl rfl (yFieldAddr rfl Try.underlying25 rfl Try.sizeOf3 rfl rfl) ?_
    refine seqQ rfl rfl (yLoad rfl Try.underlying3 rfl rfl (hB2.cell rfl)) ?_
    refine seqQ rfl rfl (yFieldAddr rfl Try.underlying25 rfl Try.sizeOf3 rfl rfl) ?_
    refine seqQ rfl rfl (yLoad rfl Try.underlying3 rfl rfl (hB2.cell rfl)) ?_
    refine seqQ rfl rfl (yFieldAddr rfl Try.underlying25 rfl Try.sizeOf3 rfl rfl) ?_
    refine seqQ rfl rfl (yLoad rfl Try.underlying3 rfl rfl (hB2.cell rfl)) ?_
    refine seqN rfl rfl (nBuildSlice (vs := [.int _ _, .int _ _, .int _ _, .int _ _, .int _ _, .int _ _, .int _ _]) rfl Try.underlying23 Try.sizeOf3 Try.zeroValue3 rfl rfl rfl rfl) (fun g24 H24 hx24 hB24 hg24 hl24 => ?_)
    refine seqQ rfl rfl (yAssign (v := .slice _ _ _) rfl rfl) ?_
    refine seqNil ?_
    refine hF6 _ _ ?_; clear hF6
    refine wpSeq fun F7 hF7 => ?_
    refine wpSeq fun F8 hF8 => ?_
    refine wpRegion ?_
    refine seqQ rfl rfl (yAssign (v := .int _ _) rfl rfl) ?_
    refine seqNil ?_
    refine hF8 _ _ ?_; clear hF8
    -- loop
    have rH : Rd eInt H24 (some ⟨g24, 0, none⟩) (hdrs p) := fun _ => ⟨_, rfl, fun j u hu => hB24.cell hu⟩
    have s1 := hx1.size
    have s2 := hx2.size
    have s24 := hx24.size
    refine wpBlock ?_
    refine wpLoopS [4, 6, 25, 26, 27, 28, 29, 30, 31, 32, 33, 34, 35, 36, 37] (fun x : Nat × Value => [(6, .int .i64 x.1), (4, x.2)]) (fun z H' => z.1 ≤ (hdrs p).length ∧ Own eByte 5 H' H24.size z.2 (((hdrs p).take z.1).flatMap encI) ∧ Ext H24 H') (fun z => (hdrs p).length - z.1) (0, _) ⟨rfl, rfl, trivial⟩ ⟨Nat.zero_le _, Own.nil _ _, Ext.refl _⟩ ?_
    rintro ⟨k, v⟩ J Hk ⟨hk, ho, hg⟩
    dsimp only at hk ho hg
    have sk := hg.size
    obtain ⟨A2, c2, rfl, -⟩ := ho.form
    have hfl := flat_le encI 10 ((hdrs p).take k) (fun y hy => encI_length (hh y (List.mem_of_mem_take hy)))
    rw [List.length_take] at hfl
    refine wpSeq fun F9 hF9 => ?_
    refine wpSeq fun F10 hF10 => ?_
    refine wpRegion ?_
    refine seqQ rfl rfl (yMove (v := .int _ _) rfl rfl) ?_
    refine seqQ rfl rfl (yMove (v := .slice _ _ _) rfl rfl) ?_
    refine seqQ rfl rfl (yLen rfl Try.underlying23 rfl) ?_
    refine seqQ rfl rfl (yLss rfl rfl rfl) ?_
    refine seqNil ?_
    refine hF10 _ _ ?_; clear hF10
    -- if t28
    refine wpIf rfl (fun hlt => ?_) (fun hlt => ?_)
    · skip
      have hk : k < (hdrs p).length := by dsimp only at hlt; omega
      obtain ⟨q, eq, hq⟩ := (rH.ext hg).at1 hk
      refine wpSkip ?_
      refine hF9 _ _ ?_; clear hF9
      refine wpSeq fun F11 hF11 => ?_
      refine wpBlock ?_
      refine wpRegion ?_
      refine seqQ rfl rfl (yMove (v := .slice _ _ _) rfl rfl) ?_
      refine seqQ rfl rfl (yMove (v := .slice _ _ _) rfl rfl) ?_
      refine seqQ rfl rfl (yMove (v := .int _ _) rfl rfl) ?_
      refine seqQ rfl rfl (yIdxP1 rfl Try.underlying23 Try.sizeOf3 rfl rfl eq rfl hk) ?_
      refine seqQ rfl rfl (yLoad rfl Try.underlying3 rfl rfl hq) ?_
      -- e slot 36: call F27<farandole/farandoleref01.Int> t35
      refine seqE rfl rfl (stepCall rfl Try.call27 rfl ?_)
      have h1 := hh _ (List.getElem_mem hk)
      refine (rInt_c (hdrs p)[k] Hk h1).mono ?_
      rintro v3 H3 ⟨o3, x3⟩
      obtain ⟨A3, c3, rfl, -⟩ := o3.form
      have hl3 := encI_length h1
      -- e slot 37: builtin append t31 t36 : [28, 28]
      refine seqE rfl rfl (stepApp (c := eByte) (ho.ext x3) rfl Try.underlying28 elem_eByte rfl (by omega) rfl rfl rfl (Own.rd o3).2 (by omega) (by have := x3.size; omega) ?_)
      intro v4 H4 o4 g4
      obtain ⟨A4, c4, rfl, -⟩ := o4.form
      refine seqQ rfl rfl (yAssign (v := .slice _ _ _) rfl rfl) ?_
      refine seqNil ?_
      refine hF11 _ _ ?_; clear hF11
      refine wpRegion ?_
      refine seqQ rfl rfl (yMove (v := .int _ _) rfl rfl) ?_
      refine seqQ rfl rfl (yAdd rfl rfl rfl (by unfold In64; omega)) ?_
      refine seqQ rfl rfl (yAssign (v := .int _ _) rfl rfl) ?_
      refine seqNil ?_
      -- end loop
      exact loopEnd (k + 1, _) (by repeat (first | (with_reducible exact Agree.refl _ _) | refine Agree.upd ?_ rfl | refine Agree.over ?_ rfl)) (by dsimp only; omega) ⟨rfl, rfl, trivial⟩ ⟨hk, by dsimp only; rw [flat_take encI hk]; exact o4, g4.ext (hg.trans x3) (fun g e => (ho.lt g e).1)⟩
    · skip
      obtain rfl : k = 7 := by dsimp only at hlt; omega
      have h3 := (hB2.ext hx24).ext hg
      have hMb : ∀ b ∈ (Value.slice A2 (((hdrs p).take 7).flatMap encI).length c2).ownBlock.toList, H24.size ≤ b ∧ b < Hk.size := fun b hb => by rw [Option.mem_toList] at hb; exact ho.lt b hb
      have hnm : g1 ∉ (Value.slice A2 (((hdrs p).take 7).flatMap encI).length c2).ownBlock.toList := fun hm => by have := (hMb _ hm).1; have := hB2.lt; omega
      have hEk : Ext H Hk := (hE.trans hx24).trans hg
      have hokv : ∀ y ∈ p.vals.map toV, OkVal y := fun y hy => by
        obtain ⟨z, hz, rfl⟩ := List.mem_map.1 hy
        exact toV_ok (h64 z hz).1 (h64 z hz).2 (hsz z hz)
      have hv4 := hf.vl
      have hc6 := hf.cl
      have hl1 : (p.vals.map toV).length = p.vals.length := List.length_map _
      have hfv := flat_le encV 1000020 (p.vals.map toV) (fun y hy => encV_le (hokv y hy))
      have hfc := flat_le encI 10 p.clk (fun y hy => encI_length (seqB_ok (hf.cs y hy)))
      have e1 := encI_length (P64_len (show (p.vals.map toV).length ≤ 1000000 by omega))
      have e2 := encI_length (P64_len (show p.clk.length ≤ 1000000 by omega))
      have lv : (encVals (p.vals.map toV)).length ≤ 5000100 := by unfold encVals; rw [List.length_append]; omega
      have lc : (encInts p.clk).length ≤ 100 := by unfold encInts; rw [List.length_append]; omega
      refine wpExit ?_
      refine hF7 _ _ ?_; clear hF7
      refine wpSeq fun F12 hF12 => ?_
      refine wpRegionD Try_mixed [.q, .q, .q, .e, .e, .q, .q, .e, .e, .q] 7 [0, 0, 2, 6, 15, 0, 32, 127, 255, 511] (Value.slice A2 (((hdrs p).take 7).flatMap encI).length c2).ownBlock.toList (by kernel_rfl) _ rfl [0, 1, 2, 3, 4, 5, 6] rfl (fun b hb => (hMb b hb).2) ?_
      refine lexQ rfl rfl rfl rfl (fun H hM => (yMove (v := .slice _ _ _) rfl rfl)) ?_
      refine lexQ rfl rfl rfl rfl (fun H hM => (yFieldAddr rfl Try.underlying25 rfl Try.sizeOf22 rfl rfl)) ?_
      refine lexQ rfl rfl rfl rfl (fun H hM => (yLoad rfl Try.underlying22 rfl rfl (hM.cell (h3.cell rfl) hnm))) ?_
      -- e slot 41: call F28<farandole/farandoleref01.Values> t40
      refine lexE0 rfl rfl rfl rfl rfl (fun hM41 => stepCall rfl Try.call28 rfl ?_)
      have hcv := rValues_c A ca (p.vals.map toV) Hk (rdV (hA.ext hEk)) hokv (by omega)
      rw [hl1] at hcv
      refine hcv.mono ?_
      rintro v5 H5 ⟨o5, x5⟩
      obtain ⟨A5, c5, rfl, -⟩ := o5.form
      refine lexFr (F := []) x5 (by simp) (fun b hb => (hMb b hb).2) ?_
      have z5 := x5.size
      -- e slot 42: builtin append t38 t41 : [28, 28]
      refine lexE0 rfl rfl rfl rfl rfl (fun hM42 => stepApp (c := eByte) (ho.ext x5) rfl Try.underlying28 elem_eByte rfl (by omega) rfl rfl rfl (Own.rd o5).2 (by omega) (by omega) ?_)
      intro v6 H6 o6 g6
      refine lexGrew g6 (fun g e => by simpa using e) (fun b hb => by have := (hMb b (by simpa using hb)).2; omega) (fun g e => (o6.lt g e).2) ?_
      obtain ⟨A6, c6, rfl, -⟩ := o6.form
      have x6 : Ext Hk H6 |> fun _ => Ext H24 H6 := g6.ext (hg.trans x5) (fun g e => (ho.lt g e).1)
      refine lexQ rfl rfl rfl rfl (fun H hM => (yFieldAddr rfl Try.underlying25 rfl Try.sizeOf23 rfl rfl)) ?_
      refine lexQ rfl rfl rfl rfl (fun H hM => (yLoad rfl Try.underlying23 rfl rfl (hM.cell (h3.cell rfl) hnm))) ?_
      -- tail
      refine lexNil0 rfl (fun hM => ?_)
      -- e slot 45: call F29<farandole/farandoleref01.Ints> t44
      refine seqE rfl rfl (stepCall rfl Try.call29 rfl ?_)
      have hE6 : Ext H H6 := (hE.trans hx24).trans x6
      refine (rInts_c B cb p.clk H6 (hB.ext hE6) (fun y hy => seqB_ok (hf.cs y hy)) (by omega)).mono ?_
      rintro v7 H7 ⟨o7, x7⟩
      obtain ⟨A7, c7, rfl, -⟩ := o7.form
      have z6 := x6.size
      have z7 := x7.size
      -- e slot 46: builtin append t42 t45 : [28, 28]
      refine seqE rfl rfl (stepApp (c := eByte) (o6.ext x7) rfl Try.underlying28 elem_eByte rfl (by omega) rfl rfl rfl (Own.rd o7).2 (by rw [List.length_append]; omega) (by omega) ?_)
      intro v8 H8 o8 g8
      obtain ⟨A8, c8, rfl, -⟩ := o8.form
      have x8 : Ext H24 H8 := g8.ext (x6.trans x7) (fun g e => (o6.lt g e).1)
      refine seqQ rfl rfl (yAssign (v := .slice _ _ _) rfl rfl) ?_
      refine seqNil ?_
      refine hF12 _ _ ?_; clear hF12
      refine wpSeq fun F13 hF13 => ?_
      refine wpRegion ?_
      refine seqQ rfl rfl (yMove (v := .slice _ _ _) rfl rfl) ?_
      -- e slot 48: call F30<farandole/farandoleref02.Seal> t47
      refine seqE rfl rfl (stepCall rfl Try.call30 rfl ?_)
      have z8 := x8.size
      refine (rSeal_c A8 c8 _ H8 (Own.rd o8).2 (by rw [List.length_append, List.length_append]; omega)).mono ?_
      rintro v9 H9 ⟨o9, x9⟩
      obtain ⟨A9, c9, rfl, -⟩ := o9.form
      refine seqQ rfl rfl (yAssign (v := .slice _ _ _) rfl rfl) ?_
      refine seqQ rfl rfl (yAssign (v := .int _ _) rfl rfl) ?_
      refine seqNil ?_
      refine hF13 _ _ ?_; clear hF13
      -- ret
      refine wpRet (fin2 (v := .slice _ _ _) (v' := .int _ _) rfl rfl rfl ?_)
      rw [e]
      exact ⟨A9, c9, rfl, o9.mono (by omega), ((hE.trans hx24).trans x8).trans x9⟩
set_option maxRecDepth 100000 in
theorem rAckOf_c (p : Pk) (A B : Option Addr) (ca cb : Nat) (H : Heap) (hA : Rd eVal H A p.vals) (hB : Rd eInt H B p.clk) :
    CallsH Try.prog 14 [.agg (pkC p A ca B cb).toArray] H fun v H' => v = .tuple #[.agg (pkC (ackP p).2 none 0 none 0).toArray, .int .i64 (ackP p).1] ∧ Ext H H' := by
  refine callsH_of Try.func14 rfl Try.ntmps14 (Nat.le_of_ble_eq_true rfl) ?_
  refine wpSeq fun F1 hF1 => ?_
  refine wpRegion ?_
  refine seqN rfl rfl (nBoxA rfl rfl) (fun g1 H1 hx1 hB1 hg1 hl1 => ?_)
  refine seqN rfl rfl (nAlloc rfl Try.zeroValue25 rfl) (fun g2 H2 hx2 hB2 hg2 hl2 => ?_)
  refine seqQ rfl rfl (yAssign (v := .int _ _) rfl rfl) ?_
  refine seqNil ?_
  refine hF1 _ _ ?_; clear hF1
  refine wpSeq fun F2 hF2 => ?_
  refine wpSeq fun F3 hF3 => ?_
  -- region 1
  have hB12 := hB1.ext hx2
  have hE := hx1.trans hx2
  have s1 := hx1.size
  refine wpRegion ?_
  refine seqQ rfl rfl (yLoadB hB12 rfl Try.underlying25 rfl Try.sizeOf25 rfl) ?_
  -- e slot 5: call F17<farandole/farandoleref46.Valid> t4
  refine seqE rfl rfl (stepCall rfl Try.call17 rfl ?_)
  refine (rValid_c p A B ca cb H2 (hA.ext hE) (hB.ext hE)).mono ?_
  rintro v H3 ⟨rfl, x3⟩
  have hB23 := hB2.ext x3
  have hB13 := hB12.ext x3
  have s3 := x3.size
  refine seqQ rfl rfl (yNot rfl rfl) ?_
  -- guard t7
  refine seqGB rfl rfl rfl rfl (fun hv => ?_) (fun hv => ?_)
  · skip
    have hv : ¬ ValidP p := by simpa using hv
    refine seqU rfl rfl ?_
    refine seqU rfl rfl ?_
    refine seqU rfl rfl ?_
    refine seqQ rfl rfl (yPickT (v := .bool _) rfl rfl rfl) ?_
    refine seqNil ?_
    refine hF3 _ _ ?_; clear hF3
    -- if t11
    refine wpT rfl ?_
    refine wpSeq fun F4 hF4 => ?_
    refine wpRegion ?_
    refine seqQ rfl rfl (yBuild (pl := [(0, 1), (1, 1), (2, 1), (3, 1), (4, 1), (5, 1), (6, 1), (7, 1), (8, 1)]) (vs := []) rfl Try.underlying25 Try.zeroValue25 rfl (by unfold Places; kernel_rfl) rfl rfl) ?_
    -- e slot None: store T25 t2 t12
    refine seqE0 rfl rfl (stepStoreB rfl (by kernel_rfl) rfl rfl rfl hB23 rfl ?_)
    intro H4 hB4 hK4
    refine seqQ rfl rfl (yAssign (v := .int _ _) rfl rfl) ?_
    refine seqNil ?_
    refine hF4 _ _ ?_; clear hF4
    -- ret
    refine wpRet (finR2 rfl (resC Try.underlying25 rfl (by kernel_rfl) rfl hB4) (resT (v := .int _ _) rfl) ?_)
    have e : ackP p = (1, pk0) := if_neg (fun h => hv h.2)
    rw [e]
    exact ⟨rfl, (hE.trans x3).mine hK4 (by simp; omega)⟩
  · skip
    have hv : ValidP p := by simpa using hv
    refine seqQ rfl rfl (yFieldAddr rfl Try.underlying25 rfl Try.sizeOf3 rfl rfl) ?_
    refine seqQ rfl rfl (yLoad rfl Try.underlying3 rfl rfl (hB13.cell rfl)) ?_
    refine seqQ rfl rfl (yNeq rfl rfl rfl) ?_
    refine seqQ rfl rfl (yPickF (v := .bool _) rfl rfl rfl) ?_
    refine seqNil ?_
    refine hF3 _ _ ?_; clear hF3
    -- if t11
    refine wpCond rfl (fun hk => ?_) (fun hk => ?_)
    · skip
      have hk : ¬ p.kind = 1 := by simpa using hk
      refine wpSeq fun F5 hF5 => ?_
      refine wpRegion ?_
      refine seqQ rfl rfl (yBuild (pl := [(0, 1), (1, 1), (2, 1), (3, 1), (4, 1), (5, 1), (6, 1), (7, 1), (8, 1)]) (vs := []) rfl Try.underlying25 Try.zeroValue25 rfl (by unfold Places; kernel_rfl) rfl rfl) ?_
      -- e slot None: store T25 t2 t12
      refine seqE0 rfl rfl (stepStoreB rfl (by kernel_rfl) rfl rfl rfl hB23 rfl ?_)
      intro H4 hB4 hK4
      refine seqQ rfl rfl (yAssign (v := .int _ _) rfl rfl) ?_
      refine seqNil ?_
      refine hF5 _ _ ?_; clear hF5
      -- ret
      refine wpRet (finR2 rfl (resC Try.underlying25 rfl (by kernel_rfl) rfl hB4) (resT (v := .int _ _) rfl) ?_)
      have e : ackP p = (1, pk0) := if_neg (fun h => hk h.1)
      rw [e]
      exact ⟨rfl, (hE.trans x3).mine hK4 (by simp; omega)⟩
    · skip
      have hk : p.kind = 1 := by simpa using hk
      refine wpSkip ?_
      refine hF2 _ _ ?_; clear hF2
      refine wpSeq fun F6 hF6 => ?_
      refine wpRegion ?_
      refine seqQ rfl rfl (yFieldAddr rfl Try.underlying25 rfl Try.sizeOf3 rfl rfl) ?_
      refine seqQ rfl rfl (yLoad rfl Try.underlying3 rfl rfl (hB13.cell rfl)) ?_
      refine seqQ rfl rfl (yFieldAddr rfl Try.underlying25 rfl Try.sizeOf3 rfl rfl) ?_
      refine seqQ rfl rfl (yLoad rfl Try.underlying3 rfl rfl (hB13.cell rfl)) ?_
      refine seqQ rfl rfl (yFieldAddr rfl Try.underlying25 rfl Try.sizeOf3 rfl rfl) ?_
      refine seqQ rfl rfl (yLoad rfl Try.underlying3 rfl rfl (hB13.cell rfl)) ?_
      refine seqQ rfl rfl (yFieldAddr rfl Try.underlying25 rfl Try.sizeOf3 rfl rfl) ?_
      refine seqQ rfl rfl (yLoad rfl Try.underlying3 rfl rfl (hB13.cell rfl)) ?_
      refine seqQ rfl rfl (yBuild (pl := [(0, 1), (1, 1), (2, 1), (3, 1), (4, 1), (5, 1), (6, 1), (7, 1), (8, 1)]) (vs := [(0, .int _ _), (1, .int _ _), (3, .int _ _), (4, .int _ _), (5, .int _ _)]) rfl Try.underlying25 Try.zeroValue25 rfl (by unfold Places; kernel_rfl) rfl rfl) ?_
      -- e slot None: store T25 t2 t21
      refine seqE0 rfl rfl (stepStoreB rfl (by kernel_rfl) rfl rfl rfl hB23 rfl ?_)
      intro H4 hB4 hK4
      refine seqQ rfl rfl (yAssign (v := .int _ _) rfl rfl) ?_
      refine seqNil ?_
      refine hF6 _ _ ?_; clear hF6
      -- ret
      refine wpRet (finR2 rfl (resC Try.underlying25 rfl (by kernel_rfl) rfl hB4) (resT (v := .int _ _) rfl) ?_)
      have e : ackP p = (0, ⟨2, p.session, 0, p.src, p.dst, p.seq, 0, [], []⟩) := if_pos ⟨hk, hv⟩
      rw [e]
      exact ⟨rfl, (hE.trans x3).mine hK4 (by simp; omega)⟩
end Go.Proofs.Ytohjmobnnjjekaa
