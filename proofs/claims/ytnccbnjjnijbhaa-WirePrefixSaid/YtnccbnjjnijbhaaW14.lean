/- WirePrefix: no proper prefix of an encoding is an encoding of the same type. Conditions: none beyond the statement's. -/
import Derived.Test.YtnccbnjjnijbhaaW13
namespace Go.Proofs.Ytnccbnjjnijbhaa
open Go.ChangeShapes Go.WideShapes Go.ChangeAt Go.RowKit Go.Deep

set_option maxRecDepth 100000 in
theorem prefix_walk (n : Int) (hn : P64 n) (s : ByteArray) (x : Evt) (A : Option Addr) (ca : Nat) (H : Heap) (hA : Rd eWV H A x.values) (hx1 : P64 x.role) (hx2 : P64 x.peer) (hx3 : P64 x.label) (hx4 : ∀ y ∈ x.values, P64 y.kind ∧ P64 y.n) (hlen : x.values.length ≤ 9223372036854775807) :
    CallsH Try.prog 6 [.int .i64 n, .string s, .agg (evC x A ca).toArray] H fun v H' => v = .bool true ∧ Ext H H' := by
  refine callsH_of Try.func6 rfl Try.ntmps6 (Nat.le_of_ble_eq_true rfl) ?_
  refine wpSeq fun F1 hF1 => ?_
  refine wpRegion ?_
  refine seqN rfl rfl (nBoxA rfl rfl) (fun g5 H5 hx5 hB5 hg5 hl5 => ?_)
  refine seqQ rfl rfl (yAssign (v := .bool _) rfl rfl) ?_
  refine seqNil ?_
  refine hF1 _ _ ?_; clear hF1
  refine wpSeq fun F2 hF2 => ?_
  refine wpSeq fun F3 hF3 => ?_
  refine wpRegion ?_
  -- e slot 16: call F8<farandole/farandolelaw01.awake> 
  refine seqE rfl rfl (stepCall rfl Try.call8 rfl ?_)
  refine (awake_c _).mono ?_
  rintro v H0 ⟨rfl, x0⟩
  have hB := hB5.ext x0
  have hE := hx5.trans x0
  refine seqQ rfl rfl (yNot rfl rfl) ?_
  refine seqNil ?_
  refine hF3 _ _ ?_; clear hF3
  -- if t17
  refine wpF rfl ?_
  refine wpSkip ?_
  refine hF2 _ _ ?_; clear hF2
  refine wpSeq fun F4 hF4 => ?_
  refine wpSeq fun F5 hF5 => ?_
  refine wpRegion ?_
  refine seqQ rfl rfl (yMove (v := .string _) rfl rfl) ?_
  refine seqQ rfl rfl (yLenS rfl Try.underlying9 rfl) ?_
  refine seqQ rfl rfl (yGtr rfl rfl rfl) ?_
  -- guard t21
  refine seqG rfl rfl rfl rfl (fun hs => ?_) (fun hs => ?_)
  · skip
    refine seqU rfl rfl ?_
    refine seqU rfl rfl ?_
    refine seqU rfl rfl ?_
    refine seqU rfl rfl ?_
    refine seqQ rfl rfl (yPickT (v := .bool _) rfl rfl rfl) ?_
    refine seqNil ?_
    refine hF5 _ _ ?_; clear hF5
    -- if t26
    refine wpT rfl ?_
    refine wpSeq fun F6 hF6 => ?_
    refine wpRegion ?_
    refine seqQ rfl rfl (yAssign (v := .bool _) rfl rfl) ?_
    refine seqNil ?_
    refine hF6 _ _ ?_; clear hF6
    -- ret
    refine wpRet (fin1 (v := .bool _) rfl rfl ?_)
    exact ⟨rfl, hE⟩
  · skip
    refine seqQ rfl rfl (yFieldAddr rfl Try.underlying61 rfl Try.sizeOf24 rfl rfl) ?_
    refine seqQ rfl rfl (yLoad rfl Try.underlying24 rfl rfl (hB.cell (j := 4) rfl)) ?_
    -- e slot 24: call F9<farandole/farandolelaw01.fewValues> t23
    refine seqE rfl rfl (stepCall rfl Try.call9 rfl ?_)
    refine (fewValues_c A ca x.values H0 (hA.ext hE) hlen).mono ?_
    rintro v Hz ⟨rfl, e⟩
    obtain rfl := e.symm
    clear e
    refine seqQ rfl rfl (yNot rfl rfl) ?_
    refine seqQ rfl rfl (yPickF (v := .bool _) rfl rfl rfl) ?_
    refine seqNil ?_
    refine hF5 _ _ ?_; clear hF5
    -- if t26
    refine wpCond rfl (fun hf => ?_) (fun hf => ?_)
    · skip
      refine wpSeq fun F7 hF7 => ?_
      refine wpRegion ?_
      refine seqQ rfl rfl (yAssign (v := .bool _) rfl rfl) ?_
      refine seqNil ?_
      refine hF7 _ _ ?_; clear hF7
      -- ret
      refine wpRet (fin1 (v := .bool _) rfl rfl ?_)
      exact ⟨rfl, hE⟩
    · skip
      have hf : fewV x.values := by simpa using hf
      obtain ⟨hf1, hf2⟩ := hf
      refine wpSkip ?_
      refine hF4 _ _ ?_; clear hF4
      refine wpSeq fun F8 hF8 => ?_
      refine wpRegionD Try_mixed [.q, .e, .q, .e, .q, .e, .q, .q, .q] 5 [0, 1, 0, 7, 0, 31, 63, 127, 255] [] (by kernel_rfl) _ rfl [0, 1, 2, 3, 4] rfl (by simp) ?_
      refine lexQ rfl rfl rfl rfl (fun H hM => (yMove (v := .int _ _) rfl rfl)) ?_
      -- e slot 28: call F11<farandole/wire.Int> [nilslice:0:0] t27
      refine lexX0 rfl rfl rfl rfl rfl (by simp) (fun hM28 => stepCall rfl Try.call11 rfl ?_)
      refine (int_c (.slice none 0 0) n H0.size [] H0 hn (Nat.le_refl _) (Own.nil _ _) (by simp)).mono ?_
      rintro v H1 ⟨o1, g1⟩
      have x1 : Ext H0 H1 := g1.ext (Ext.refl _) (by intro g e; cases e)
      rw [List.nil_append] at o1
      obtain ⟨A1, c1, rfl, e1, -⟩ := o1.form
      refine ⟨x1, fun _ => ?_⟩
      refine lexQ rfl rfl rfl rfl (fun H hM => (yMove (v := .string _) rfl rfl)) ?_
      -- e slot 30: call F12<farandole/wire.Text> [nilslice:0:0] t29
      refine lexX0 rfl rfl rfl rfl rfl (by simp) (fun hM30 => stepCall rfl Try.call12 rfl ?_)
      refine (text_c (.slice none 0 0) s H1.size [] H1 (Nat.le_refl _) (Own.nil _ _) (by simp) (by omega)).mono ?_
      rintro v H2 ⟨o2, g2⟩
      have x2 : Ext H1 H2 := g2.ext (Ext.refl _) (by intro g e; cases e)
      rw [List.nil_append] at o2
      obtain ⟨A2, c2, rfl, e2, -⟩ := o2.form
      refine ⟨x2, fun _ => ?_⟩
      refine lexQ rfl rfl rfl rfl (fun H hM => (yLoadB (hB.ext hM.ext) rfl Try.underlying61 rfl Try.sizeOf61 rfl)) ?_
      -- tail
      refine lexNil0 rfl (fun hM => ?_)
      -- e slot 32: call F35<farandole/wire.Event> [nilslice:0:0] t31
      refine seqE rfl rfl (stepCall rfl Try.call35 rfl ?_)
      have okx : OkEvt x := ⟨hx1, hx2, hx3, fun y hy => ⟨(hx4 y hy).1, (hx4 y hy).2, by have := hf1 y hy; omega⟩, by omega⟩
      refine (event_c (.slice none 0 0) A ca x H2.size [] H2 (Nat.le_refl _) (Own.nil _ _) (RdM.of (((hA.ext hE).ext x1).ext x2) (fun p e hm => by simp [Value.ownBlock] at hm)) okx (by simp)).mono ?_
      rintro v H3 ⟨o3, g3⟩
      have x3 : Ext H2 H3 := g3.ext (Ext.refl _) (by intro g e; cases e)
      rw [List.nil_append] at o3
      obtain ⟨A3, c3, rfl, e3, -⟩ := o3.form
      have r1 := (Own.rd ((o1.ext x2).ext x3)).2
      have r2 := (Own.rd (o2.ext x3)).2
      have r3 := (Own.rd o3).2
      replace hE := ((hE.trans x1).trans x2).trans x3
      have n1 := encI_length hn
      have n2 : (encBytes s.data.toList).length ≤ 210 := by
        have h1 := encI_length (P64_len (show s.data.toList.length ≤ 1000000 by change s.size ≤ _; omega))
        unfold encBytes
        rw [List.length_append]
        change _ + s.size ≤ _
        omega
      clear o1 o2 o3 g1 g2 g3 x1 x2 x3 hB hB5 hx5 x0
      refine seqQ rfl rfl (yAssign (v := .slice _ _ _) rfl rfl) ?_
      refine seqQ rfl rfl (yAssign (v := .slice _ _ _) rfl rfl) ?_
      refine seqQ rfl rfl (yAssign (v := .slice _ _ _) rfl rfl) ?_
      refine seqNil ?_
      refine hF8 _ _ ?_; clear hF8
      refine wpSeq fun F9 hF9 => ?_
      refine wpSeq fun F10 hF10 => ?_
      refine wpRegion ?_
      refine seqQ rfl rfl (yAssign (v := .int _ _) rfl rfl) ?_
      refine seqNil ?_
      refine hF10 _ _ ?_; clear hF10
      -- loop
      refine wpBlock ?_
      refine wpLoopS [6, 10, 11, 33, 34, 35, 36, 37, 38, 39, 40, 41, 42, 43, 44, 45, 46, 47, 48, 49, 50] (fun k : Nat => [(10, .int .i64 k)]) (fun k H' => Ext H3 H' ∧ k ≤ (encI n).length) (fun k => (encI n).length - k) 0 ⟨rfl, trivial⟩ ⟨Ext.refl _, Nat.zero_le _⟩ ?_
      rintro k J Hk ⟨xk, hk⟩
      refine wpSeq fun F11 hF11 => ?_
      refine wpSeq fun F12 hF12 => ?_
      refine wpRegion ?_
      refine seqQ rfl rfl (yMove (v := .int _ _) rfl rfl) ?_
      refine seqQ rfl rfl (yMove (v := .slice _ _ _) rfl rfl) ?_
      refine seqQ rfl rfl (yLen rfl Try.underlying29 rfl) ?_
      refine seqQ rfl rfl (yLss rfl rfl rfl) ?_
      refine seqNil ?_
      refine hF12 _ _ ?_; clear hF12
      -- if t36
      refine wpIf rfl (fun hlt => ?_) (fun hlt => ?_)
      · skip
        have hk : k < (encI n).length := by omega
        refine wpSkip ?_
        refine hF11 _ _ ?_; clear hF11
        refine wpSeq fun F13 hF13 => ?_
        refine wpBlock ?_
        refine wpSeq fun F14 hF14 => ?_
        refine wpRegion ?_
        refine seqQ rfl rfl (yMove (v := .slice _ _ _) rfl rfl) ?_
        refine seqQ rfl rfl (yMove (v := .int _ _) rfl rfl) ?_
        refine seqQ rfl rfl (ySliceH rfl Try.underlying29 Try.sizeOf5 rfl rfl rfl (by omega)) ?_
        -- e slot 42: call F20<farandole/wire.New> t41
        refine seqE rfl rfl (stepCall rfl Try.call20 rfl ?_)
        have hl : ((encI n).take k).length = k := by rw [List.length_take]; omega
        have hc := New_c A1 c1 ((encI n).take k) Hk ((r1.ext xk).take k) (by omega)
        rw [hl] at hc
        refine hc.mono ?_
        rintro v H4 ⟨x4, g, B, cB, rfl, hg, q, -⟩
        refine seqQ rfl rfl (yAssign (v := .pointer _) rfl rfl) ?_
        refine seqNil ?_
        refine hF14 _ _ ?_; clear hF14
        refine wpSeq fun F15 hF15 => ?_
        refine wpRegion ?_
        refine seqQ rfl rfl (yMove (v := .pointer _) rfl rfl) ?_
        -- e slot 44: call F30<(*farandole/wire.Reader).Int> t43
        refine seqE rfl rfl (stepCall rfl Try.call30 rfl ?_)
        refine (Int_c g B cB _ 0 false H4 q).mono ?_
        rintro v H5 ⟨hK5, hp⟩
        rcases hp with ⟨a, k', hp, -⟩ | ⟨-, q5, rfl⟩
        · have hd : (encI n).drop k ≠ [] := by intro h; have := congrArg List.length h; simp at this; omega
          rw [prs_f, List.drop_zero, (rdI_prefix hn (List.take_append_drop k (encI n)).symm hd)] at hp
          cases hp
        refine seqQ rfl rfl (yNeq rfl rfl rfl) ?_
        refine seqQ rfl rfl (yMove (v := .bool false) rfl rfl) ?_
        refine seqQ rfl rfl (yMove (v := .pointer _) rfl rfl) ?_
        -- e slot 48: call F29<(*farandole/wire.Reader).End> t47
        refine seqE rfl rfl (stepCall rfl Try.call29 rfl ?_)
        refine (End_c g B cB _ 0 true H5 q5).mono ?_
        rintro v Hz ⟨hv, e⟩
        obtain rfl : v = .int .i64 4 := hv.trans (by simp)
        obtain rfl := e.symm
        clear e hv
        have s1 := xk.size
        refine seqQ rfl rfl (yNeq rfl rfl rfl) ?_
        refine seqQ rfl rfl (yPickF (v := .bool _) rfl rfl rfl) ?_
        refine seqNil ?_
        refine hF15 _ _ ?_; clear hF15
        -- if t50
        refine wpF rfl ?_
        refine wpSkip ?_
        refine hF13 _ _ ?_; clear hF13
        refine wpRegion ?_
        refine seqQ rfl rfl (yMove (v := .int _ _) rfl rfl) ?_
        refine seqQ rfl rfl (yAdd rfl rfl rfl (by unfold In64; omega)) ?_
        refine seqQ rfl rfl (yAssign (v := .int _ _) rfl rfl) ?_
        refine seqNil ?_
        -- end loop
        exact loopEnd (k + 1) (by repeat (first | (with_reducible exact Agree.refl _ _) | refine Agree.upd ?_ rfl | refine Agree.over ?_ rfl)) (by omega) ⟨rfl, trivial⟩ ⟨xk.trans (x4.mine hK5 (by simp; omega)), hk⟩
      · skip
        refine wpExit ?_
        refine hF9 _ _ ?_; clear hF9
        refine wpSeq fun F16 hF16 => ?_
        refine wpSeq fun F17 hF17 => ?_
        refine wpRegion ?_
        refine seqQ rfl rfl (yAssign (v := .int _ _) rfl rfl) ?_
        refine seqNil ?_
        refine hF17 _ _ ?_; clear hF17
        -- loop
        have xk1 := xk
        refine wpBlock ?_
        refine wpLoopS [6, 12, 13, 51, 52, 53, 54, 55, 56, 57, 58, 59, 60, 61, 62, 63, 64, 65, 66, 67, 68] (fun k : Nat => [(12, .int .i64 k)]) (fun k H' => Ext H3 H' ∧ k ≤ (encBytes s.data.toList).length) (fun k => (encBytes s.data.toList).length - k) 0 ⟨rfl, trivial⟩ ⟨xk1, Nat.zero_le _⟩ ?_
        rintro k J Hk ⟨xk, hk⟩
        refine wpSeq fun F18 hF18 => ?_
        refine wpSeq fun F19 hF19 => ?_
        refine wpRegion ?_
        refine seqQ rfl rfl (yMove (v := .int _ _) rfl rfl) ?_
        refine seqQ rfl rfl (yMove (v := .slice _ _ _) rfl rfl) ?_
        refine seqQ rfl rfl (yLen rfl Try.underlying29 rfl) ?_
        refine seqQ rfl rfl (yLss rfl rfl rfl) ?_
        refine seqNil ?_
        refine hF19 _ _ ?_; clear hF19
        -- if t54
        refine wpIf rfl (fun hlt => ?_) (fun hlt => ?_)
        · skip
          have hk : k < (encBytes s.data.toList).length := by omega
          refine wpSkip ?_
          refine hF18 _ _ ?_; clear hF18
          refine wpSeq fun F20 hF20 => ?_
          refine wpBlock ?_
          refine wpSeq fun F21 hF21 => ?_
          refine wpRegion ?_
          refine seqQ rfl rfl (yMove (v := .slice _ _ _) rfl rfl) ?_
          refine seqQ rfl rfl (yMove (v := .int _ _) rfl rfl) ?_
          refine seqQ rfl rfl (ySliceH rfl Try.underlying29 Try.sizeOf5 rfl rfl rfl (by omega)) ?_
          -- e slot 60: call F20<farandole/wire.New> t59
          refine seqE rfl rfl (stepCall rfl Try.call20 rfl ?_)
          have hl : ((encBytes s.data.toList).take k).length = k := by rw [List.length_take]; omega
          have hc := New_c A2 c2 ((encBytes s.data.toList).take k) Hk ((r2.ext xk).take k) (by omega)
          rw [hl] at hc
          refine hc.mono ?_
          rintro v H4 ⟨x4, g, B, cB, rfl, hg, q, -⟩
          refine seqQ rfl rfl (yAssign (v := .pointer _) rfl rfl) ?_
          refine seqNil ?_
          refine hF21 _ _ ?_; clear hF21
          refine wpSeq fun F22 hF22 => ?_
          refine wpRegion ?_
          refine seqQ rfl rfl (yMove (v := .pointer _) rfl rfl) ?_
          -- e slot 62: call F26<(*farandole/wire.Reader).Text> t61 [i:i64:200]
          refine seqE rfl rfl (stepCall rfl Try.call26 rfl ?_)
          refine (Text_c g B cB _ 0 false 200 H4 q (by decide)).mono ?_
          rintro v H5 ⟨hK5, hp⟩
          rcases hp with ⟨a, k', hp, -⟩ | ⟨-, q5, rfl⟩
          · have hd : (encBytes s.data.toList).drop k ≠ [] := by intro h; have := congrArg List.length h; simp at this; omega
            rw [prs_f, List.drop_zero, (pBytes_prefix (by change s.size ≤ _; omega) (by decide) (List.take_append_drop k (encBytes s.data.toList)).symm hd)] at hp
            cases hp
          refine seqQ rfl rfl (yNeqS rfl rfl rfl) ?_
          -- guard t64
          rw [show (!decide ((⟨#[]⟩ : ByteArray) = ⟨#[]⟩)) = false from by simp]
          refine seqQ rfl rfl (yMove (v := .bool false) rfl rfl) ?_
          refine seqQ rfl rfl (yMove (v := .pointer _) rfl rfl) ?_
          -- e slot 66: call F29<(*farandole/wire.Reader).End> t65
          refine seqE rfl rfl (stepCall rfl Try.call29 rfl ?_)
          refine (End_c g B cB _ 0 true H5 q5).mono ?_
          rintro v Hz ⟨hv, e⟩
          obtain rfl : v = .int .i64 4 := hv.trans (by simp)
          obtain rfl := e.symm
          clear e hv
          have s1 := xk.size
          refine seqQ rfl rfl (yNeq rfl rfl rfl) ?_
          refine seqQ rfl rfl (yPickF (v := .bool _) rfl rfl rfl) ?_
          refine seqNil ?_
          refine hF22 _ _ ?_; clear hF22
          -- if t68
          refine wpF rfl ?_
          refine wpSkip ?_
          refine hF20 _ _ ?_; clear hF20
          refine wpRegion ?_
          refine seqQ rfl rfl (yMove (v := .int _ _) rfl rfl) ?_
          refine seqQ rfl rfl (yAdd rfl rfl rfl (by unfold In64; omega)) ?_
          refine seqQ rfl rfl (yAssign (v := .int _ _) rfl rfl) ?_
          refine seqNil ?_
          -- end loop
          exact loopEnd (k + 1) (by repeat (first | (with_reducible exact Agree.refl _ _) | refine Agree.upd ?_ rfl | refine Agree.over ?_ rfl)) (by omega) ⟨rfl, trivial⟩ ⟨xk.trans (x4.mine hK5 (by simp; omega)), hk⟩
        · skip
          refine wpExit ?_
          refine hF16 _ _ ?_; clear hF16
          refine wpSeq fun F23 hF23 => ?_
          refine wpSeq fun F24 hF24 => ?_
          refine wpRegion ?_
          refine seqQ rfl rfl (yAssign (v := .int _ _) rfl rfl) ?_
          refine seqNil ?_
          refine hF24 _ _ ?_; clear hF24
          -- loop
          have xk2 := xk
          have ne1 := List.length_pos_iff.2 (encI_ne n)
          have ne2 : 0 < (encBytes s.data.toList).length := by
            unfold encBytes
            rw [List.length_append]
            have := List.length_pos_iff.2 (encI_ne (s.data.toList.length : Int))
            omega
          have ne3 : 0 < (encE x).length := by
            unfold encE
            rw [List.length_append]
            have := List.length_pos_iff.2 (encI_ne x.role)
            omega
          refine wpBlock ?_
          refine wpLoopS [6, 14, 15, 69, 70, 71, 72, 73, 74, 75, 76, 77, 78, 79, 80, 81, 82, 83, 84, 85, 86, 87, 88, 89, 90, 91, 92] (fun k : Nat => [(14, .int .i64 k)]) (fun k H' => Ext H3 H' ∧ k ≤ (encE x).length) (fun k => (encE x).length - k) 0 ⟨rfl, trivial⟩ ⟨xk2, Nat.zero_le _⟩ ?_
          rintro k J Hk ⟨xk, hk⟩
          refine wpSeq fun F25 hF25 => ?_
          refine wpSeq fun F26 hF26 => ?_
          refine wpRegion ?_
          refine seqQ rfl rfl (yMove (v := .int _ _) rfl rfl) ?_
          refine seqQ rfl rfl (yMove (v := .slice _ _ _) rfl rfl) ?_
          refine seqQ rfl rfl (yLen rfl Try.underlying29 rfl) ?_
          refine seqQ rfl rfl (yLss rfl rfl rfl) ?_
          -- guard t73
          refine seqG rfl rfl rfl rfl (fun hlt => ?_) (fun hlt => ?_)
          · skip
            have hk : k < (encE x).length := by omega
            refine seqQ rfl rfl (yMove (v := .int _ _) rfl rfl) ?_
            refine seqQ rfl rfl (yLss rfl rfl rfl) ?_
            refine seqQ rfl rfl (yPickT (v := .bool _) rfl rfl rfl) ?_
            refine seqNil ?_
            refine hF26 _ _ ?_; clear hF26
            -- if t76
            refine wpIf rfl (fun h100 => ?_) (fun h100 => ?_)
            · skip
              refine wpSkip ?_
              refine hF25 _ _ ?_; clear hF25
              refine wpSeq fun F27 hF27 => ?_
              refine wpBlock ?_
              refine wpSeq fun F28 hF28 => ?_
              refine wpRegion ?_
              refine seqQ rfl rfl (yMove (v := .slice _ _ _) rfl rfl) ?_
              refine seqQ rfl rfl (yMove (v := .int _ _) rfl rfl) ?_
              refine seqQ rfl rfl (ySliceH rfl Try.underlying29 Try.sizeOf5 rfl rfl rfl (by omega)) ?_
              -- e slot 82: call F20<farandole/wire.New> t81
              refine seqE rfl rfl (stepCall rfl Try.call20 rfl ?_)
              have hl : ((encE x).take k).length = k := by rw [List.length_take]; omega
              have hc := New_c A3 c3 ((encE x).take k) Hk ((r3.ext xk).take k) (by omega)
              rw [hl] at hc
              refine hc.mono ?_
              rintro v H4 ⟨x4, g, B, cB, rfl, hg, q, -⟩
              refine seqQ rfl rfl (yAssign (v := .pointer _) rfl rfl) ?_
              refine seqNil ?_
              refine hF28 _ _ ?_; clear hF28
              refine wpSeq fun F29 hF29 => ?_
              refine wpRegion ?_
              refine seqQ rfl rfl (yMove (v := .pointer _) rfl rfl) ?_
              -- e slot 84: call F34<(*farandole/wire.Reader).Event> t83
              refine seqE rfl rfl (stepCall rfl Try.call34 rfl ?_)
              refine (Event_c g B cB _ 0 false H4 q).mono ?_
              rintro v H5 ⟨hK5, hp⟩
              rcases hp with ⟨y, k', hp, -, hy⟩ | ⟨-, q5, rfl⟩
              · have hd : (encE x).drop k ≠ [] := by intro h; have := congrArg List.length h; simp at this; omega
                exfalso
                rw [prs_f, List.drop_zero] at hp
                have hcn := pEvt_canon hp
                have hte := List.take_append_drop k (encE x)
                rw [hcn, List.append_assoc] at hte
                have := encE_inj okx hy.2 (r := []) (by rw [List.append_nil]; exact hte.symm)
                exact hd (List.append_eq_nil_iff.1 this.symm).2
              refine seqQ rfl rfl (yBuild (pl := [(0, 1), (1, 1), (2, 1), (3, 1), (4, 1)]) (vs := []) rfl Try.underlying61 Try.zeroValue61 rfl (by unfold Places; kernel_rfl) rfl rfl) ?_
              -- e slot 86: call F33<farandole/farandoleref01.SameEvent> t84 t85
              refine seqE rfl rfl (stepCall rfl Try.call33 rfl ?_)
              refine (SameEvent_zero H5).mono ?_
              rintro v H6 ⟨rfl, x6⟩
              have q6 := q5.ext x6
              refine seqQ rfl rfl (yNot rfl rfl) ?_
              refine seqQ rfl rfl (yMove (v := .bool false) rfl rfl) ?_
              refine seqQ rfl rfl (yMove (v := .pointer _) rfl rfl) ?_
              -- e slot 90: call F29<(*farandole/wire.Reader).End> t89
              refine seqE rfl rfl (stepCall rfl Try.call29 rfl ?_)
              refine (End_c g B cB _ 0 true H6 q6).mono ?_
              rintro v Hz ⟨hv, e⟩
              obtain rfl : v = .int .i64 4 := hv.trans (by simp)
              obtain rfl := e.symm
              clear e hv
              have s1 := xk.size
              refine seqQ rfl rfl (yNeq rfl rfl rfl) ?_
              refine seqQ rfl rfl (yPickF (v := .bool _) rfl rfl rfl) ?_
              refine seqNil ?_
              refine hF29 _ _ ?_; clear hF29
              -- if t92
              refine wpF rfl ?_
              refine wpSkip ?_
              refine hF27 _ _ ?_; clear hF27
              refine wpRegion ?_
              refine seqQ rfl rfl (yMove (v := .int _ _) rfl rfl) ?_
              refine seqQ rfl rfl (yAdd rfl rfl rfl (by unfold In64; omega)) ?_
              refine seqQ rfl rfl (yAssign (v := .int _ _) rfl rfl) ?_
              refine seqNil ?_
              -- end loop
              exact loopEnd (k + 1) (by repeat (first | (with_reducible exact Agree.refl _ _) | refine Agree.upd ?_ rfl | refine Agree.over ?_ rfl)) (by omega) ⟨rfl, trivial⟩ ⟨xk.trans ((x4.mine hK5 (by simp; omega)).trans x6), hk⟩
            · skip
              refine wpExit ?_
              refine hF23 _ _ ?_; clear hF23
              refine wpSeq fun F30 hF30 => ?_
              refine wpRegion ?_
              refine seqQ rfl rfl (yMove (v := .slice _ _ _) rfl rfl) ?_
              refine seqQ rfl rfl (yLen rfl Try.underlying29 rfl) ?_
              refine seqQ rfl rfl (yGtr rfl rfl rfl) ?_
              -- guard t96
              refine seqG rfl rfl rfl rfl (fun p1 => ?_) (fun p1 => ?_)
              · skip
                refine seqQ rfl rfl (yMove (v := .slice _ _ _) rfl rfl) ?_
                refine seqQ rfl rfl (yLen rfl Try.underlying29 rfl) ?_
                refine seqQ rfl rfl (yGtr rfl rfl rfl) ?_
                refine seqQ rfl rfl (yPickT (v := .bool _) rfl rfl rfl) ?_
                -- guard t101
                refine seqG rfl rfl rfl rfl (fun p2 => ?_) (fun p2 => ?_)
                · skip
                  refine seqQ rfl rfl (yMove (v := .slice _ _ _) rfl rfl) ?_
                  refine seqQ rfl rfl (yLen rfl Try.underlying29 rfl) ?_
                  refine seqQ rfl rfl (yGtr rfl rfl rfl) ?_
                  refine seqQ rfl rfl (yPickT (v := .bool _) rfl rfl rfl) ?_
                  refine seqQ rfl rfl (yAssign (v := .bool _) rfl rfl) ?_
                  refine seqNil ?_
                  refine hF30 _ _ ?_; clear hF30
                  -- ret
                  refine wpRet (fin1 (v := .bool _) rfl rfl ?_)
                  exact ⟨by congr 1; exact decide_eq_true (by omega), hE.trans xk⟩
                · skip
                  omega
              · skip
                omega
          · skip
            refine seqU rfl rfl ?_
            refine seqU rfl rfl ?_
            refine seqQ rfl rfl (yPickF (v := .bool _) rfl rfl rfl) ?_
            refine seqNil ?_
            refine hF26 _ _ ?_; clear hF26
            -- if t76
            refine wpF rfl ?_
            refine wpExit ?_
            refine hF23 _ _ ?_; clear hF23
            refine wpSeq fun F31 hF31 => ?_
            refine wpRegion ?_
            refine seqQ rfl rfl (yMove (v := .slice _ _ _) rfl rfl) ?_
            refine seqQ rfl rfl (yLen rfl Try.underlying29 rfl) ?_
            refine seqQ rfl rfl (yGtr rfl rfl rfl) ?_
            -- guard t96
            refine seqG rfl rfl rfl rfl (fun p1 => ?_) (fun p1 => ?_)
            · skip
              refine seqQ rfl rfl (yMove (v := .slice _ _ _) rfl rfl) ?_
              refine seqQ rfl rfl (yLen rfl Try.underlying29 rfl) ?_
              refine seqQ rfl rfl (yGtr rfl rfl rfl) ?_
              refine seqQ rfl rfl (yPickT (v := .bool _) rfl rfl rfl) ?_
              -- guard t101
              refine seqG rfl rfl rfl rfl (fun p2 => ?_) (fun p2 => ?_)
              · skip
                refine seqQ rfl rfl (yMove (v := .slice _ _ _) rfl rfl) ?_
                refine seqQ rfl rfl (yLen rfl Try.underlying29 rfl) ?_
                refine seqQ rfl rfl (yGtr rfl rfl rfl) ?_
                refine seqQ rfl rfl (yPickT (v := .bool _) rfl rfl rfl) ?_
                refine seqQ rfl rfl (yAssign (v := .bool _) rfl rfl) ?_
                refine seqNil ?_
                refine hF31 _ _ ?_; clear hF31
                -- ret
                refine wpRet (fin1 (v := .bool _) rfl rfl ?_)
                exact ⟨by congr 1; exact decide_eq_true (by omega), hE.trans xk⟩
              · skip
                omega
            · skip
              omega
set_option maxRecDepth 100000 in
set_option maxRecDepth 100000 in
theorem wirePrefix_lifted (os : Os) (started : os.Started) (H : Type) (enc : TypeId × Value → H) :
    ReturnsInHanded {} Try.checked os 6 .any (Rows.wirePrefixSpec.pre6 enc Try.prog Try.f6 Rows.wirePrefixRow.domain false) (Rows.wirePrefixSpec.post enc Try.prog Try.f6 false true false false) := by
  refine law_lifted started Rows.wirePrefixSpec rfl (by kernel_rfl) Try.func6 rfl
    (fun ds h => by match ds, h with | [_, _, _], _ => rfl) (of_decide_eq_true (by kernel_rfl))
    (ChangeSpec.witness6 (enc := enc) (C := Try.checked) false ⟨#[], #[.int .i64 0, .string ByteArray.empty, .agg #[.int .i64 0, .bool false, .int .i64 0, .int .i64 0, .slice none 0 0]], []⟩ 8 (by kernel_rfl) (by kernel_rfl) (by kernel_rfl) (by kernel_rfl)) ?_
  intro W base args ds p hval hA
  rw [Try.params6] at hA hval
  obtain ⟨v0, v1, v2, d0, d1, d2, p0, p1, p2, rfl, rfl, rfl, h0, h1, h2⟩ := trodAll_three hA
  have g0 := hval 0 _ v0 rfl rfl
  have g1 := hval 1 _ v1 rfl rfl
  have g2 := hval 2 _ v2 rfl rfl
  obtain ⟨n, rfl, hn⟩ := (opn_int (W := W) Try.underlying3 (by kernel_rfl)).one (one_int Try.underlying3 g0) h0
  obtain ⟨s, rfl, -⟩ := (opn_str (W := W) Try.underlying9 (by kernel_rfl)).one (one_str Try.underlying9 g1) h1
  obtain ⟨⟨x, A, ca⟩, rfl, k1, k2, k3, k4, k5, k6⟩ := (opn_evt W).agg Try.underlying61 rfl g2 h2
  exact prefix_walk n hn s x A ca W.heap k1 k2 k3 k4 k5 k6
set_option maxRecDepth 100000 in
theorem wirePrefix_holds : Rows.WirePrefixSaid :=
  OpenClaim.holds_of_wide 6 Try.f6 rfl rfl rfl rfl rfl rfl rfl ⟨rfl, rfl, rfl, rfl, rfl⟩ rfl rfl rfl rfl rfl (by kernel_rfl) Try.func6 (by kernel_rfl)
    (of_decide_eq_true (by kernel_rfl)) (by unfold Func.isWrapper; first | (rw [if_pos (by decide +kernel)]; kernel_rfl) | (rw [if_neg (by decide +kernel)]; exact ⟨rfl, rfl⟩))
    (fun os started H enc _ => wirePrefix_lifted os started H enc)
end Go.Proofs.Ytnccbnjjnijbhaa
