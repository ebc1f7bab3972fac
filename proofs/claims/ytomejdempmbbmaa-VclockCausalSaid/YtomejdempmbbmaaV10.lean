/- The walk over VclockCausal. -/
import Derived.Test.YtomejdempmbbmaaV9
namespace Go.Proofs.Ytomejdempmbbmaa
open Go.RowKit

set_option maxHeartbeats 4000000 in
set_option maxRecDepth 20000 in
theorem causal_walk (A : Option Addr) (ca : Nat) (l : List (UInt8 × UInt8)) (H : Heap) (hA : Rd eAct H A l) :
    CallsH Try.prog 8 [.slice A l.length ca] H fun v H' => v = .bool true ∧ Ext H H' := by
  refine callsH_of Try.func8 rfl Try.ntmps8 (Nat.le_of_ble_eq_true rfl) ?_
  refine wpSeq fun F1 hF1 => ?_
  refine wpRegion ?_
  refine seqQ rfl rfl (yAssign (v := .bool _) rfl rfl) ?_
  refine seqNil ?_
  refine hF1 _ _ ?_; clear hF1
  refine wpSeq fun F2 hF2 => ?_
  refine wpSeq fun F3 hF3 => ?_
  refine wpRegion ?_
  -- e slot 20: call F9<farandole/farandolelaw07.awake> 
  refine seqE rfl rfl (stepCall rfl Try.call9 rfl ?_)
  refine (awake_c _).mono ?_
  rintro v H0 ⟨rfl, hx0⟩
  refine seqQ rfl rfl (yNot rfl rfl) ?_
  refine seqQ rfl rfl (yMove (v := .bool false) rfl rfl) ?_
  refine seqQ rfl rfl (yMove (v := .slice _ _ _) rfl rfl) ?_
  refine seqQ rfl rfl (yLen rfl Try.underlying49 rfl) ?_
  refine seqQ rfl rfl (yGtr rfl rfl rfl) ?_
  refine seqQ rfl rfl (yPickF (v := .bool _) rfl rfl rfl) ?_
  refine seqNil ?_
  refine hF3 _ _ ?_; clear hF3
  -- if t26
  refine wpIf rfl (fun h14 => ?_) (fun h14 => ?_)
  · skip
    refine wpSeq fun F4 hF4 => ?_
    refine wpRegion ?_
    -- e slot 27: call F9<farandole/farandolelaw07.awake> 
    refine seqE rfl rfl (stepCall rfl Try.call9 rfl ?_)
    refine (awake_c _).mono ?_
    rintro v H1 ⟨rfl, hx1⟩
    refine seqQ rfl rfl (yAssign (v := .bool _) rfl rfl) ?_
    refine seqNil ?_
    refine hF4 _ _ ?_; clear hF4
    -- ret
    refine wpRet (fin1 (v := .bool _) rfl rfl ?_)
    exact ⟨rfl, hx0.trans hx1⟩
  · skip
    have hn : l.length ≤ 14 := by omega
    refine wpSkip ?_
    refine hF2 _ _ ?_; clear hF2
    refine wpSeq fun F5 hF5 => ?_
    refine wpRegion ?_
    -- e slot 29: call F22<farandole/vclock.Zero> [i:i64:3]
    refine seqE rfl rfl (stepCall rfl Try.call22 rfl ?_)
    refine (zero_c 3 _ (by unfold In64; omega)).mono ?_
    rintro v H1 ⟨hx1, ⟨h1, _⟩ | ⟨_, s, rfl, hz⟩⟩
    · omega
    have e3 : List.replicate (3 : Int).toNat (0 : Int) = [0, 0, 0] := rfl
    rw [e3] at hz
    obtain ⟨Az, cz, rfl, -, hrz, hbz⟩ := hz.form
    refine seqQ rfl rfl (yMove (v := .tuple _) rfl rfl) ?_
    refine seqQ rfl rfl (yExtract (v := .slice _ _ _) rfl rfl rfl) ?_
    refine seqQ rfl rfl (yExtract (v := .int _ _) rfl rfl rfl) ?_
    refine seqQ rfl rfl (yAssign (v := .slice _ _ _) rfl rfl) ?_
    refine seqQ rfl rfl (yAssign (v := .int _ _) rfl rfl) ?_
    refine seqNil ?_
    refine hF5 _ _ ?_; clear hF5
    refine wpSeq fun F6 hF6 => ?_
    refine wpRegion ?_
    refine seqQ rfl rfl (yMove (v := .slice _ _ _) rfl rfl) ?_
    refine seqQ rfl rfl (yMove (v := .slice _ _ _) rfl rfl) ?_
    refine seqQ rfl rfl (yMove (v := .slice _ _ _) rfl rfl) ?_
    refine seqN rfl rfl (nBuildSlice (vs := [.slice _ _ _, .slice _ _ _, .slice _ _ _]) rfl Try.underlying50 Try.sizeOf26 Try.zeroValue26 rfl rfl rfl rfl) (fun g35 H35 hx35 hB35 hg35 hl35 => ?_)
    refine seqQ rfl rfl (yAssign (v := .slice _ _ _) rfl rfl) ?_
    refine seqNil ?_
    refine hF6 _ _ ?_; clear hF6
    refine wpSeq fun F7 hF7 => ?_
    refine wpRegion ?_
    refine seqQ rfl rfl (yAssign (v := .slice _ _ _) rfl rfl) ?_
    refine seqNil ?_
    refine hF7 _ _ ?_; clear hF7
    refine wpSeq fun F8 hF8 => ?_
    refine wpRegion ?_
    refine seqQ rfl rfl (yMove (v := .slice _ _ _) rfl rfl) ?_
    refine seqQ rfl rfl (yLen rfl Try.underlying49 rfl) ?_
    -- e slot 38: makeSlice T51 t37 t37
    refine seqE rfl rfl (stepMake (c := eHdr) (z := (none, 0, 0)) rfl Try.underlying51 elem_hdr31 rfl (by omega) rfl rfl rfl (by omega) ?_)
    intro gb Hb hxb hgb hownb
    have hz3 : Own eHdr 26 H35 H.size (.slice (some ⟨g35, 0, none⟩) 3 3) [(Az, 3, cz), (Az, 3, cz), (Az, 3, cz)] := Own.lit (c := eHdr) (l := [(Az, 3, cz), (Az, 3, cz), (Az, 3, cz)]) hB35 (by have := hx0.size; have := hx1.size; omega) (by simp)
    have hE : Ext H Hb := ((hx0.trans hx1).trans hx35).trans hxb
    have s0 := hx0.size
    have s1 := hx1.size
    have s2 := hx35.size
    have s3 := hxb.size
    have st0 : CSt l H Hb.size g35 gb 0 (.slice none 0 0) (List.replicate l.length (none, 0, 0)) [] [(Az, 3, cz), (Az, 3, cz), (Az, 3, cz)] Hb := by
      refine ⟨Nat.zero_le _, hE, Nat.le_refl _, hz3.ext hxb, hownb.mono (by omega), Own.nil _ _, rfl, by simp, rfl, fun k hk => absurd hk (by omega), fun k hk => absurd hk (by omega), fun p hp => ⟨Az, cz, [0, 0, 0], ?_, ?_, ?_⟩⟩
      · match p, hp with
        | 0, _ => rfl
        | 1, _ => rfl
        | 2, _ => rfl
      · refine RdM.of ((hrz.ext hx35).ext hxb) fun p e hm => ?_
        have := (hbz p e).2.1
        simp [Value.ownBlock] at hm
        omega
      · refine Thr.zero.congr fun j => ⟨False.elim, ?_⟩
        rintro ⟨k, h1, _⟩
        omega
    have hne : g35 ≠ gb := by omega
    have hgn : g35 < Hb.size := by omega
    have hgb' : gb < Hb.size := (hownb.lt gb rfl).2
    have hgn0 : H.size ≤ g35 := by omega
    have hgb0 : H.size ≤ gb := by omega
    have hE0 : H.size ≤ Hb.size := hE.size
    clear hownb hz3 hrz hbz hz hx0 hx1 hx35 hxb hB35 hE
    refine seqQ rfl rfl (yAssign (v := .slice _ _ _) rfl rfl) ?_
    refine seqNil ?_
    refine hF8 _ _ ?_; clear hF8
    refine wpSeq fun F9 hF9 => ?_
    refine wpSeq fun F10 hF10 => ?_
    refine wpRegion ?_
    refine seqQ rfl rfl (yMove (v := .slice _ _ _) rfl rfl) ?_
    refine seqQ rfl rfl (yLen rfl Try.underlying49 rfl) ?_
    refine seqQ rfl rfl (yMove (v := .int _ _) rfl rfl) ?_
    refine seqNil ?_
    refine hF10 _ _ ?_; clear hF10
    -- loop
    refine wpBlock ?_
    refine wpLoopS [2, 6, 8, 9, 10, 11, 12, 13, 14, 15, 41, 42, 43, 44, 45, 46, 47, 48, 49, 50, 51, 52, 53, 54, 55, 56, 57, 58, 59, 60, 61, 62, 63, 64, 65, 66, 67, 68, 69, 70, 71, 72, 73, 74, 75, 76, 77, 78, 79, 80, 81, 82, 83, 84, 85, 86, 87, 88, 89, 90, 91, 92, 93, 94, 95, 96, 97, 98, 99, 100, 101, 102, 103, 104, 105, 106, 107, 108, 109, 110, 111, 112, 113, 114, 115, 116, 117, 118, 119, 120, 121, 122, 123, 124, 125, 126, 127, 128, 129, 130, 131, 132, 133, 134, 135, 136, 137, 138, 139, 140, 141, 142, 143, 144, 145, 146, 147, 148, 149, 150, 151, 152, 153, 154, 155, 156, 157, 158, 159, 160, 161, 162, 163, 164, 165, 166, 167, 168, 169] (fun x : Nat × Value × List Hdr × List Hdr × List Hdr => [(6, x.2.1), (41, .int .i64 x.1)]) (fun x H' => CSt l H Hb.size g35 gb x.1 x.2.1 x.2.2.1 x.2.2.2.1 x.2.2.2.2 H') (fun x => l.length - x.1) (0, .slice none 0 0, List.replicate l.length (none, 0, 0), [], [(Az, 3, cz), (Az, 3, cz), (Az, 3, cz)]) ⟨rfl, rfl, trivial⟩ st0 ?_
    rintro ⟨i, vc, bs, hs, ns⟩ J1 H2 st
    dsimp only at st ⊢
    clear st0
    obtain ⟨Av, cv, rfl, -⟩ := st.own_c.form
    refine wpSeq fun F11 hF11 => ?_
    refine wpRegion ?_
    refine seqQ rfl rfl (yLss rfl rfl rfl) ?_
    refine seqNil ?_
    refine hF11 _ _ ?_; clear hF11
    refine wpSeq fun F12 hF12 => ?_
    -- if t42
    refine wpIf rfl (fun hi => ?_) (fun hi => ?_)
    · skip
      have hi : i < l.length := by omega
      obtain ⟨pA, rfl, hcA⟩ := hA.at hi
      refine wpSkip ?_
      refine hF12 _ _ ?_; clear hF12
      refine wpSeq fun F13 hF13 => ?_
      refine wpBlock ?_
      refine wpSeq fun F14 hF14 => ?_
      refine wpRegion ?_
      refine seqQ rfl rfl (yMove (v := .int _ _) rfl rfl) ?_
      refine seqQ rfl rfl (yAssign (v := .int _ _) rfl rfl) ?_
      refine seqNil ?_
      refine hF14 _ _ ?_; clear hF14
      refine wpSeq fun F15 hF15 => ?_
      refine wpRegionD Try_mixed [.q, .q, .q, .q, .q, .q, .q, .q, .q, .q, .q, .q, .q, .q, .q] 14 [0, 0, 3, 7, 15, 31, 63, 0, 0, 384, 896, 1920, 3968, 127, 16383] [] (by kernel_rfl) _ rfl [0, 1, 2, 3, 4, 5, 6, 7, 8, 9, 10, 11, 12, 13] rfl (by simp) ?_
      refine lexQ rfl rfl rfl rfl (fun H hM => (yMove (v := .slice _ _ _) rfl rfl)) ?_
      refine lexQ rfl rfl rfl rfl (fun H hM => (yMove (v := .int _ _) rfl rfl)) ?_
      refine lexQ rfl rfl rfl rfl (fun H hM => (yIdx rfl Try.underlying49 Try.sizeOf53 rfl rfl rfl (by omega))) ?_
      refine lexQ rfl rfl rfl rfl (fun H hM => (yFieldAddr rfl Try.underlying53 rfl Try.sizeOf5 rfl rfl)) ?_
      refine lexQ rfl rfl rfl rfl (fun H hM => (yLoad rfl Try.underlying5 rfl rfl (hM.ext.cell (st.ext.cell (hcA 0 _ rfl))))) ?_
      refine lexQ rfl rfl rfl rfl (fun H hM => (yRem rfl rfl rfl (by omega))) ?_
      refine lexQ rfl rfl rfl rfl (fun H hM => (yConv rfl Try.underlying5 Try.underlying3 rfl (rl_at hi))) ?_
      refine lexQ rfl rfl rfl rfl (fun H hM => (yMove (v := .slice _ _ _) rfl rfl)) ?_
      refine lexQ rfl rfl rfl rfl (fun H hM => (yMove (v := .int _ _) rfl rfl)) ?_
      refine lexQ rfl rfl rfl rfl (fun H hM => (yIdx rfl Try.underlying49 Try.sizeOf53 rfl rfl rfl (by omega))) ?_
      refine lexQ rfl rfl rfl rfl (fun H hM => (yFieldAddr rfl Try.underlying53 rfl Try.sizeOf5 rfl rfl)) ?_
      refine lexQ rfl rfl rfl rfl (fun H hM => (yLoad rfl Try.underlying5 rfl rfl (hM.ext.cell (st.ext.cell (hcA 1 _ rfl))))) ?_
      refine lexQ rfl rfl rfl rfl (fun H hM => (yConv rfl Try.underlying5 Try.underlying3 rfl (fl_at hi))) ?_
      refine lexQ rfl rfl rfl rfl (fun H hM => (yAssign (v := .int _ _) rfl rfl)) ?_
      -- tail
      refine lexNil0 rfl (fun hM => ?_)
      refine seqQ rfl rfl (yAssign (v := .int _ _) rfl rfl) ?_
      refine seqNil ?_
      refine hF15 _ _ ?_; clear hF15
      refine wpSeq fun F16 hF16 => ?_
      refine wpRegion ?_
      refine seqQ rfl rfl (yMove (v := .slice _ _ _) rfl rfl) ?_
      refine seqQ rfl rfl (yMove (v := .int _ _) rfl rfl) ?_
      refine seqQ rfl rfl (yMove (v := .slice _ _ _) rfl rfl) ?_
      refine seqQ rfl rfl (yLen rfl Try.underlying49 rfl) ?_
      -- e slot 61: makeSlice T31 t60 t60
      refine seqE rfl rfl (stepMake (c := eBool) (z := false) rfl Try.underlying31 elem_eBool rfl (by omega) rfl rfl rfl (by omega) ?_)
      intro g Hm hxm hgm hrow
      refine seqQ rfl rfl (yIdx1 rfl Try.underlying51 Try.sizeOf31 rfl rfl rfl (by omega)) ?_
      -- e slot None: store T31 t62 t61
      refine seqE0 rfl rfl (stepStoreOwn (z := (some ⟨g, 0, none⟩, l.length, l.length)) (st.own_b.ext hxm) rfl Try.sizeOf31 rfl rfl rfl rfl (by rw [st.bl]; exact hi) ?_)
      intro H3 hB3 hK3
      have hgl := (hrow.lt g rfl).2
      have ci := st.begin hi hxm hgm hgl hB3 hK3 hgb0 hne hgn hgb'
      have hb0 := st.b0_le
      replace hrow := (hrow.mono hb0).keep hK3 (by intro b e; obtain rfl := Option.some.inj e; simp; show g ≠ gb; omega)
      clear hB3 hK3 st
      obtain ⟨An, cn, vn, hns, hrn, htn⟩ := ci.now (rl l i) (rl_lt l i)
      obtain ⟨p, e, hcn⟩ := ci.own_n.hdr hns
      obtain rfl := Option.some.inj e
      clear e
      refine seqNil ?_
      refine hF16 _ _ ?_; clear hF16
      refine wpSeq fun F17 hF17 => ?_
      refine wpRegion ?_
      refine seqQ rfl rfl (yMove (v := .slice _ _ _) rfl rfl) ?_
      refine seqQ rfl rfl (yMove (v := .int _ _) rfl rfl) ?_
      refine seqQ rfl rfl (yIdx1 rfl Try.underlying50 Try.sizeOf26 rfl rfl rfl (rl_lt l i)) ?_
      refine seqQ rfl rfl (yLoad rfl Try.underlying26 rfl rfl hcn) ?_
      refine seqQ rfl rfl (yMove (v := .int _ _) rfl rfl) ?_
      -- e slot 69: call F20<farandole/vclock.Tick> t67 t68
      refine seqE rfl rfl (stepCall rfl Try.call20 rfl ?_)
      refine (tick_c An cn vn _ H3 hrn.rd (by rw [htn.len]; omega)).mono ?_
      rintro v H4 ⟨hx4, s, rfl, hown4⟩
      rw [tickF_thr (rl_lt l) htn (by omega)] at hown4 ⊢
      obtain ⟨Ac, cc, rfl, -⟩ := hown4.form
      have hrc := hown4.rdM (ci.ltM hgn hgb')
      clear hown4 hcn
      replace hrn := hrn.tr (Tr.of_ext hx4 _)
      replace ci := ci.keep (hx4.keep _) hE0 hgn hgb'
      replace hrow := hrow.ext hx4
      clear hx4
      refine seqQ rfl rfl (yMove (v := .tuple _) rfl rfl) ?_
      refine seqQ rfl rfl (yExtract (v := .slice _ _ _) rfl rfl rfl) ?_
      refine seqQ rfl rfl (yExtract (v := .int _ _) rfl rfl rfl) ?_
      refine seqQ rfl rfl (yAssign (v := .slice _ _ _) rfl rfl) ?_
      refine seqQ rfl rfl (yAssign (v := .int _ _) rfl rfl) ?_
      refine seqNil ?_
      refine hF17 _ _ ?_; clear hF17
      refine wpSeq fun F18 hF18 => ?_
      refine wpSeq fun F19 hF19 => ?_
      -- region 13
      refine cutF [72, 73, 74, 75, 76, 77, 78] (fun _ : Unit => [(78, .bool (decide (1 ≤ fl l i ∧ fl l i ≤ i)))]) (fun _ H' => H' = H4) hF19 ?_ (fun hC => ?_)
      · skip
        rintro ⟨⟩ J2 H' rfl
        -- if t78
        refine cutF [11, 12, 79, 80, 81, 82, 83, 84, 85, 86, 87, 88, 89, 90, 91, 92, 93, 94, 95, 96, 97, 98, 99] (fun z : Option Addr × Nat × List Int × List Bool => [(11, .slice z.1 z.2.2.1.length z.2.1), (12, .int .i64 0)]) (fun z H'' => Keep [g] H' H'' ∧ RdM eInt ((Value.slice Av hs.length cv).ownBlock.toList ++ [g, g35, gb]) H'' z.1 z.2.2.1 ∧ Thr (rl l) z.2.2.1 (fun j => j = i ∨ HB (rl l) (fl l) j i) (i + 1) ∧ Own eBool 4 H'' Hb.size (.slice (some ⟨g, 0, none⟩) l.length l.length) z.2.2.2 ∧ First (rl l) (fl l) l.length i 0 z.2.2.2) hF18 ?_ (fun hC => ?_)
        · skip
          rintro ⟨Ac, cc, vcl, w⟩ J3 H5 ⟨hK5, hrc, htc, hrow, hfst⟩
          dsimp only at hK5 hrc htc hrow hfst ⊢
          replace ci := ci.keep hK5 hE0 hgn hgb'
          clear hK5
          refine wpSeq fun F20 hF20 => ?_
          refine wpSeq fun F21 hF21 => ?_
          refine wpRegion ?_
          refine seqQ rfl rfl (yMove (v := .int _ _) rfl rfl) ?_
          refine seqQ rfl rfl (yNeq rfl rfl rfl) ?_
          refine seqNil ?_
          refine hF21 _ _ ?_; clear hF21
          -- if t101
          refine wpF rfl ?_
          obtain ⟨p, e, hbi5⟩ := ci.own_b.hdr ci.row
          obtain rfl := Option.some.inj e
          clear e
          refine wpSkip ?_
          refine hF20 _ _ ?_; clear hF20
          refine wpSeq fun F22 hF22 => ?_
          refine wpSeq fun F23 hF23 => ?_
          refine wpRegion ?_
          refine seqQ rfl rfl (yMove (v := .int _ _) rfl rfl) ?_
          refine seqQ rfl rfl (yMove (v := .int _ _) rfl rfl) ?_
          refine seqNil ?_
          refine hF23 _ _ ?_; clear hF23
          -- loop
          refine wpBlock ?_
          refine wpLoopS [13, 103, 104, 105, 106, 107, 108, 109, 110, 111, 112, 113, 114, 115, 116, 117, 118, 119, 120, 121] (fun x : Nat × List Bool => [(103, .int .i64 x.1)]) (fun x H' => x.1 ≤ i ∧ Keep [g] H5 H' ∧ Own eBool 4 H' Hb.size (.slice (some ⟨g, 0, none⟩) l.length l.length) x.2 ∧ First (rl l) (fl l) l.length i x.1 x.2) (fun x => i - x.1) (0, w) ⟨rfl, trivial⟩ ⟨Nat.zero_le _, Keep.refl _ _, hrow, hfst⟩ ?_
          rintro ⟨k, w1⟩ J4 H6 ⟨hk, hK6, hrow6, hf6⟩
          dsimp only at hk hK6 hrow6 hf6 ⊢
          clear hrow hfst
          have ci6 := ci.keep hK6 hE0 hgn hgb'
          refine wpSeq fun F24 hF24 => ?_
          refine wpRegion ?_
          refine seqQ rfl rfl (yLss rfl rfl rfl) ?_
          refine seqNil ?_
          refine hF24 _ _ ?_; clear hF24
          refine wpSeq fun F25 hF25 => ?_
          -- if t104
          refine wpIf rfl (fun hki => ?_) (fun hki => ?_)
          · skip
            have hki : k < i := by omega
            have hkl : k < l.length := by omega
            obtain ⟨p, e, hck⟩ := hA.at hkl
            obtain rfl := Option.some.inj e
            obtain ⟨p, e, hbi⟩ := ci6.own_b.hdr ci6.row
            obtain rfl := Option.some.inj e
            refine wpSkip ?_
            refine hF25 _ _ ?_; clear hF25
            refine wpSeq fun F26 hF26 => ?_
            refine wpBlock ?_
            refine wpSeq fun F27 hF27 => ?_
            refine wpRegion ?_
            refine seqQ rfl rfl (yMove (v := .int _ _) rfl rfl) ?_
            refine seqQ rfl rfl (yAssign (v := .int _ _) rfl rfl) ?_
            refine seqNil ?_
            refine hF27 _ _ ?_; clear hF27
            refine wpSeq fun F28 hF28 => ?_
            refine wpRegion ?_
            refine seqQ rfl rfl (yMove (v := .slice _ _ _) rfl rfl) ?_
            refine seqQ rfl rfl (yMove (v := .int _ _) rfl rfl) ?_
            refine seqQ rfl rfl (yIdx rfl Try.underlying49 Try.sizeOf53 rfl rfl rfl hkl) ?_
            refine seqQ rfl rfl (yFieldAddr rfl Try.underlying53 rfl Try.sizeOf5 rfl rfl) ?_
            refine seqQ rfl rfl (yLoad rfl Try.underlying5 rfl rfl (ci6.ext.cell (hck 0 _ rfl))) ?_
            refine seqQ rfl rfl (yRem rfl rfl rfl (by omega)) ?_
            refine seqQ rfl rfl (yConv rfl Try.underlying5 Try.underlying3 rfl (rl_at hkl)) ?_
            refine seqQ rfl rfl (yMove (v := .int _ _) rfl rfl) ?_
            refine seqQ rfl rfl (yEql rfl rfl rfl) ?_
            refine seqNil ?_
            refine hF28 _ _ ?_; clear hF28
            -- if t114
            refine wpIf rfl (fun hr => ?_) (fun hr => ?_)
            · skip
              have hr : rl l k = rl l i := by omega
              refine wpRegion ?_
              refine seqQ rfl rfl (yMove (v := .slice _ _ _) rfl rfl) ?_
              refine seqQ rfl rfl (yMove (v := .int _ _) rfl rfl) ?_
              refine seqQ rfl rfl (yIdx1 rfl Try.underlying51 Try.sizeOf31 rfl rfl rfl hi) ?_
              refine seqQ rfl rfl (yLoad rfl Try.underlying31 rfl rfl hbi) ?_
              refine seqQ rfl rfl (yMove (v := .int _ _) rfl rfl) ?_
              refine seqQ rfl rfl (yIdx1 rfl Try.underlying31 Try.sizeOf4 rfl rfl rfl hkl) ?_
              -- e slot None: store T4 t120 [b:true]
              refine seqE0 rfl rfl (stepStoreOwn hrow6 rfl Try.sizeOf4 rfl rfl rfl rfl (by rw [hf6.len]; exact hkl) ?_)
              intro H7 hrow7 hK7
              refine seqNil ?_
              refine hF26 _ _ ?_; clear hF26
              refine wpRegion ?_
              refine seqQ rfl rfl (yAdd rfl rfl rfl (by unfold In64; omega)) ?_
              refine seqQ rfl rfl (yMove (v := .int _ _) rfl rfl) ?_
              refine seqNil ?_
              -- end loop
              exact loopEnd (k + 1, _) (by repeat (first | (with_reducible exact Agree.refl _ _) | refine Agree.upd ?_ rfl | refine Agree.over ?_ rfl)) (by show i - (k + 1) < i - k; omega) ⟨rfl, trivial⟩ ⟨hki, hK6.trans hK7, hrow7, hf6.yes hr⟩
            · skip
              have hr : rl l k ≠ rl l i := by omega
              refine wpSkip ?_
              refine hF26 _ _ ?_; clear hF26
              refine wpRegion ?_
              refine seqQ rfl rfl (yAdd rfl rfl rfl (by unfold In64; omega)) ?_
              refine seqQ rfl rfl (yMove (v := .int _ _) rfl rfl) ?_
              refine seqNil ?_
              -- end loop
              exact loopEnd (k + 1, w1) (by repeat (first | (with_reducible exact Agree.refl _ _) | refine Agree.upd ?_ rfl | refine Agree.over ?_ rfl)) (by show i - (k + 1) < i - k; omega) ⟨rfl, trivial⟩ ⟨hki, hK6, hrow6, hf6.no hr⟩
          · skip
            obtain rfl : i = k := by omega
            have hwk := hf6.work
            clear hf6 ci hbi5
            refine wpExit ?_
            refine hF22 _ _ ?_; clear hF22
            refine wpSeq fun F29 hF29 => ?_
            refine wpSeq fun F30 hF30 => ?_
            refine wpRegion ?_
            refine seqQ rfl rfl (yMove (v := .int _ _) rfl rfl) ?_
            refine seqQ rfl rfl (yMove (v := .int _ _) rfl rfl) ?_
            refine seqNil ?_
            refine hF30 _ _ ?_; clear hF30
            -- loop
            refine wpBlock ?_
            refine wpLoopS [14, 15, 123, 124, 125, 126, 127, 128, 129, 130, 131, 132, 133, 134, 135, 136, 137, 138, 139, 140, 141, 142, 143, 144, 145, 146, 147, 148, 149, 150, 151, 152, 153, 154, 155, 156, 157, 158, 159, 160] (fun x : Nat × List Bool => [(123, .int .i64 x.1)]) (fun x H' => x.1 ≤ i ∧ Keep [g] H6 H' ∧ Own eBool 4 H' Hb.size (.slice (some ⟨g, 0, none⟩) l.length l.length) x.2 ∧ Work (rl l) (fl l) l.length i x.1 0 x.2) (fun x => i - x.1) (0, w1) ⟨rfl, trivial⟩ ⟨Nat.zero_le _, Keep.refl _ _, hrow6, hwk⟩ ?_
            rintro ⟨k, w2⟩ J5 H7 ⟨hk, hK7, hrow7, hw7⟩
            dsimp only at hk hK7 hrow7 hw7 ⊢
            clear hrow6 hwk
            have ci7 := ci6.keep hK7 hE0 hgn hgb'
            obtain ⟨p, e, hbi⟩ := ci7.own_b.hdr ci7.row
            obtain rfl := Option.some.inj e
            clear e
            refine wpSeq fun F31 hF31 => ?_
            refine wpRegion ?_
            refine seqQ rfl rfl (yLss rfl rfl rfl) ?_
            refine seqNil ?_
            refine hF31 _ _ ?_; clear hF31
            refine wpSeq fun F32 hF32 => ?_
            -- if t124
            refine wpIf rfl (fun hki => ?_) (fun hki => ?_)
            · skip
              have hki : k < i := by omega
              have hkl : k < l.length := by omega
              have hkw : k < w2.length := by rw [hw7.len]; exact hkl
              obtain ⟨p, e, hwk⟩ := (Own.rd hrow7).2.at1 hkw
              obtain rfl := Option.some.inj e
              clear e
              refine wpSkip ?_
              refine hF32 _ _ ?_; clear hF32
              refine wpSeq fun F33 hF33 => ?_
              refine wpBlock ?_
              refine wpSeq fun F34 hF34 => ?_
              refine wpRegion ?_
              refine seqQ rfl rfl (yMove (v := .int _ _) rfl rfl) ?_
              refine seqQ rfl rfl (yAssign (v := .int _ _) rfl rfl) ?_
              refine seqNil ?_
              refine hF34 _ _ ?_; clear hF34
              refine wpSeq fun F35 hF35 => ?_
              refine wpRegion ?_
              refine seqQ rfl rfl (yMove (v := .slice _ _ _) rfl rfl) ?_
              refine seqQ rfl rfl (yMove (v := .int _ _) rfl rfl) ?_
              refine seqQ rfl rfl (yIdx1 rfl Try.underlying51 Try.sizeOf31 rfl rfl rfl hi) ?_
              refine seqQ rfl rfl (yLoad rfl Try.underlying31 rfl rfl hbi) ?_
              refine seqQ rfl rfl (yMove (v := .int _ _) rfl rfl) ?_
              refine seqQ rfl rfl (yIdx1 rfl Try.underlying31 Try.sizeOf4 rfl rfl rfl hkl) ?_
              refine seqQ rfl rfl (yLoad rfl Try.underlying4 rfl rfl hwk) ?_
              refine seqNil ?_
              refine hF35 _ _ ?_; clear hF35
              -- if t132
              refine wpCond rfl (fun hb => ?_) (fun hb => ?_)
              · skip
                have hbk := hw7.sound k hkw hb
                clear hwk
                refine wpSeq fun F36 hF36 => ?_
                refine wpRegion ?_
                refine seqQ rfl rfl (yMove (v := .int _ _) rfl rfl) ?_
                refine seqQ rfl rfl (yMove (v := .int _ _) rfl rfl) ?_
                refine seqNil ?_
                refine hF36 _ _ ?_; clear hF36
                -- loop
                refine wpBlock ?_
                refine wpLoopS [15, 134, 135, 136, 137, 138, 139, 140, 141, 142, 143, 144, 145, 146, 147, 148, 149, 150, 151, 152, 153, 154, 155, 156, 157, 158, 159] (fun x : Nat × List Bool => [(134, .int .i64 x.1)]) (fun x H' => x.1 ≤ k ∧ Keep [g] H7 H' ∧ Own eBool 4 H' Hb.size (.slice (some ⟨g, 0, none⟩) l.length l.length) x.2 ∧ Work (rl l) (fl l) l.length i k x.1 x.2) (fun x => k - x.1) (0, w2) ⟨rfl, trivial⟩ ⟨Nat.zero_le _, Keep.refl _ _, hrow7, hw7⟩ ?_
                rintro ⟨m, w3⟩ J6 H8 ⟨hm, hK8, hrow8, hw8⟩
                dsimp only at hm hK8 hrow8 hw8 ⊢
                clear hrow7 hw7 hbi
                have ci8 := ci7.keep hK8 hE0 hgn hgb'
                obtain ⟨p, e, hbi⟩ := ci8.own_b.hdr ci8.row
                obtain rfl := Option.some.inj e
                clear e
                refine wpSeq fun F37 hF37 => ?_
                refine wpRegion ?_
                refine seqQ rfl rfl (yLss rfl rfl rfl) ?_
                refine seqNil ?_
                refine hF37 _ _ ?_; clear hF37
                refine wpSeq fun F38 hF38 => ?_
                -- if t135
                refine wpIf rfl (fun hmk => ?_) (fun hmk => ?_)
                · skip
                  have hmk : m < k := by omega
                  have hml : m < l.length := by omega
                  have hmw : m < w3.length := by rw [hw8.len]; exact hml
                  obtain ⟨p, e, hwm⟩ := (Own.rd hrow8).2.at1 hmw
                  obtain rfl := Option.some.inj e
                  obtain ⟨gk, hbk2, hgk, hBk⟩ := ci8.rows k hki
                  obtain ⟨p, e, hbk'⟩ := ci8.own_b.hdr hbk2
                  obtain rfl := Option.some.inj e
                  clear e
                  have hrm : m < (rowOf (rl l) (fl l) l.length k).length := by rw [rowOf_len]; exact hml
                  refine wpSkip ?_
                  refine hF38 _ _ ?_; clear hF38
                  refine wpSeq fun F39 hF39 => ?_
                  refine wpBlock ?_
                  refine wpSeq fun F40 hF40 => ?_
                  refine wpRegion ?_
                  refine seqQ rfl rfl (yMove (v := .int _ _) rfl rfl) ?_
                  refine seqQ rfl rfl (yAssign (v := .int _ _) rfl rfl) ?_
                  refine seqNil ?_
                  refine hF40 _ _ ?_; clear hF40
                  refine wpRegionD Try_mixed [.q, .q, .q, .q, .q, .q, .q, .q, .q, .q, .q, .q, .q, .q, .q, .q, .q, .q, .q, .q, .q, .q, .e] 21 [0, 0, 3, 7, 0, 0, 0, 96, 224, 0, 992, 2016, 4064, 8160, 8160, 32736, 65504, 8160, 262112, 524256, 1048544, 2097151, 4194303] [] (by kernel_rfl) _ rfl [0, 1, 2, 3, 4, 5, 6, 7, 8, 9, 10, 11, 12, 13, 14, 15, 16, 17, 18, 19, 20] rfl (by simp) ?_
                  refine lexQ rfl rfl rfl rfl (fun H hM => (yMove (v := .slice _ _ _) rfl rfl)) ?_
                  refine lexQ rfl rfl rfl rfl (fun H hM => (yMove (v := .int _ _) rfl rfl)) ?_
                  refine lexQ rfl rfl rfl rfl (fun H hM => (yIdx1 rfl Try.underlying51 Try.sizeOf31 rfl rfl rfl hi)) ?_
                  refine lexQ rfl rfl rfl rfl (fun H hM => (yLoad rfl Try.underlying31 rfl rfl (hM.ext.cell hbi))) ?_
                  refine lexQ rfl rfl rfl rfl (fun H hM => (yMove (v := .int _ _) rfl rfl)) ?_
                  refine lexQ rfl rfl rfl rfl (fun H hM => (yMove (v := .slice _ _ _) rfl rfl)) ?_
                  refine lexQ rfl rfl rfl rfl (fun H hM => (yMove (v := .int _ _) rfl rfl)) ?_
                  refine lexQ rfl rfl rfl rfl (fun H hM => (yIdx1 rfl Try.underlying51 Try.sizeOf31 rfl rfl rfl hi)) ?_
                  refine lexQ rfl rfl rfl rfl (fun H hM => (yLoad rfl Try.underlying31 rfl rfl (hM.ext.cell hbi))) ?_
                  refine lexQ rfl rfl rfl rfl (fun H hM => (yMove (v := .int _ _) rfl rfl)) ?_
                  refine lexQ rfl rfl rfl rfl (fun H hM => (yIdx1 rfl Try.underlying31 Try.sizeOf4 rfl rfl rfl hml)) ?_
                  refine lexQ rfl rfl rfl rfl (fun H hM => (yLoad rfl Try.underlying4 rfl rfl (hM.ext.cell hwm))) ?_
                  -- guard t149
                  refine lexGB rfl rfl rfl rfl rfl rfl (fun h3 => ?_) (fun h3 => ?_)
                  · skip
                    refine lexU rfl rfl rfl ?_
                    refine lexU rfl rfl rfl ?_
                    refine lexU rfl rfl rfl ?_
                    refine lexU rfl rfl rfl ?_
                    refine lexU rfl rfl rfl ?_
                    refine lexU rfl rfl rfl ?_
                    refine lexU rfl rfl rfl ?_
                    refine lexQ rfl rfl rfl rfl (fun H hM => (yPickT (v := .bool _) rfl rfl rfl)) ?_
                    -- tail
                    refine lexNil0 rfl (fun hM => ?_)
                    refine seqQ rfl rfl (yIdx1 rfl Try.underlying31 Try.sizeOf4 rfl rfl rfl hml) ?_
                    -- e slot None: store T4 t158 t157
                    refine seqE0 rfl rfl (stepStoreOwn (z := true) hrow8 rfl Try.sizeOf4 rfl rfl rfl rfl hmw ?_)
                    intro H9 hrow9 hK9
                    refine seqNil ?_
                    refine hF39 _ _ ?_; clear hF39
                    refine wpRegion ?_
                    refine seqQ rfl rfl (yAdd rfl rfl rfl (by unfold In64; omega)) ?_
                    refine seqQ rfl rfl (yMove (v := .int _ _) rfl rfl) ?_
                    refine seqNil ?_
                    -- end loop
                    exact loopEnd (m + 1, _) (by repeat (first | (with_reducible exact Agree.refl _ _) | refine Agree.upd ?_ rfl | refine Agree.over ?_ rfl)) (by show k - (m + 1) < k - m; omega) ⟨rfl, trivial⟩ ⟨hmk, hK8.trans hK9, hrow9, hw8.step hbk hmw (by simp [h3])⟩
                  · skip
                    refine lexQ rfl rfl rfl rfl (fun H hM => (yMove (v := .slice _ _ _) rfl rfl)) ?_
                    refine lexQ rfl rfl rfl rfl (fun H hM => (yMove (v := .int _ _) rfl rfl)) ?_
                    refine lexQ rfl rfl rfl rfl (fun H hM => (yIdx1 rfl Try.underlying51 Try.sizeOf31 rfl rfl rfl hkl)) ?_
                    refine lexQ rfl rfl rfl rfl (fun H hM => (yLoad rfl Try.underlying31 rfl rfl (hM.ext.cell hbk'))) ?_
                    refine lexQ rfl rfl rfl rfl (fun H hM => (yMove (v := .int _ _) rfl rfl)) ?_
                    refine lexQ rfl rfl rfl rfl (fun H hM => (yIdx1 rfl Try.underlying31 Try.sizeOf4 rfl rfl rfl hml)) ?_
                    refine lexQ rfl rfl rfl rfl (fun H hM => (yLoad rfl Try.underlying4 rfl rfl (hM.ext.cell (hBk.cell (j := m) (v := .bool (rowOf (rl l) (fl l) l.length k)[m]) (by simp [hrm]))))) ?_
                    refine lexQ rfl rfl rfl rfl (fun H hM => (yPickF (v := .bool _) rfl rfl rfl)) ?_
                    -- tail
                    refine lexNil0 rfl (fun hM => ?_)
                    refine seqQ rfl rfl (yIdx1 rfl Try.underlying31 Try.sizeOf4 rfl rfl rfl hml) ?_
                    -- e slot None: store T4 t158 t157
                    refine seqE0 rfl rfl (stepStoreOwn hrow8 rfl Try.sizeOf4 rfl rfl rfl rfl hmw ?_)
                    intro H9 hrow9 hK9
                    refine seqNil ?_
                    refine hF39 _ _ ?_; clear hF39
                    refine wpRegion ?_
                    refine seqQ rfl rfl (yAdd rfl rfl rfl (by unfold In64; omega)) ?_
                    refine seqQ rfl rfl (yMove (v := .int _ _) rfl rfl) ?_
                    refine seqNil ?_
                    -- end loop
                    exact loopEnd (m + 1, _) (by repeat (first | (with_reducible exact Agree.refl _ _) | refine Agree.upd ?_ rfl | refine Agree.over ?_ rfl)) (by show k - (m + 1) < k - m; omega) ⟨rfl, trivial⟩ ⟨hmk, hK8.trans hK9, hrow9, hw8.step hbk hmw (by rw [rowOf_get]; simp [h3])⟩
                · skip
                  obtain rfl : k = m := by omega
                  refine wpExit ?_
                  refine hF33 _ _ ?_; clear hF33
                  refine wpRegion ?_
                  refine seqQ rfl rfl (yAdd rfl rfl rfl (by unfold In64; omega)) ?_
                  refine seqQ rfl rfl (yMove (v := .int _ _) rfl rfl) ?_
                  refine seqNil ?_
                  -- end loop
                  exact loopEnd (k + 1, w3) (by repeat (first | (with_reducible exact Agree.refl _ _) | refine Agree.upd ?_ rfl | refine Agree.over ?_ rfl)) (by show i - (k + 1) < i - k; omega) ⟨rfl, trivial⟩ ⟨hki, hK7.trans hK8, hrow8, hw8.next hbk⟩
              · skip
                refine wpSkip ?_
                refine hF33 _ _ ?_; clear hF33
                refine wpRegion ?_
                refine seqQ rfl rfl (yAdd rfl rfl rfl (by unfold In64; omega)) ?_
                refine seqQ rfl rfl (yMove (v := .int _ _) rfl rfl) ?_
                refine seqNil ?_
                -- end loop
                exact loopEnd (k + 1, w2) (by repeat (first | (with_reducible exact Agree.refl _ _) | refine Agree.upd ?_ rfl | refine Agree.over ?_ rfl)) (by show i - (k + 1) < i - k; omega) ⟨rfl, trivial⟩ ⟨hki, hK7, hrow7, hw7.pass hkw hb⟩
            · skip
              obtain rfl : i = k := by omega
              have hrow := hw7.row
              replace hrc := (hrc.tr (Tr.store hK6 (by simp))).tr (Tr.store hK7 (by simp))
              clear hw7 hbi
              refine wpExit ?_
              refine hF29 _ _ ?_; clear hF29
              refine wpSeq fun F41 hF41 => ?_
              refine wpRegion ?_
              refine seqQ rfl rfl (yMove (v := .slice _ _ _) rfl rfl) ?_
              refine seqQ rfl rfl (yMove (v := .int _ _) rfl rfl) ?_
              refine seqQ rfl rfl (yMove (v := .slice _ _ _) rfl rfl) ?_
              refine seqQ rfl rfl (yIdx1 rfl Try.underlying50 Try.sizeOf26 rfl rfl rfl (rl_lt l i)) ?_
              -- e slot None: store T26 t164 t163
              refine seqE0 rfl rfl (stepStoreOwn (z := (Ac, vcl.length, cc)) ci7.own_n rfl Try.sizeOf26 rfl rfl rfl rfl (by rw [ci7.nl]; exact rl_lt l i) ?_)
              intro H8 hN8 hK8
              refine seqNil ?_
              refine hF41 _ _ ?_; clear hF41
              refine wpRegion ?_
              refine seqQ rfl rfl (yMove (v := _) rfl rfl) ?_
              refine seqQ rfl rfl (yMove (v := .slice _ _ _) rfl rfl) ?_
              refine seqN rfl rfl (nBuildSlice (vs := [.slice _ _ _]) rfl Try.underlying50 Try.sizeOf26 Try.zeroValue26 rfl rfl rfl rfl) (fun g167 H167 hx167 hB167 hg167 hl167 => ?_)
              -- e slot 168: builtin append t165 t167 : [50, 50]
              refine seqE rfl rfl (stepApp (c := eHdr) ((ci7.own_c.keep hK8 (by intro b e; have : Hb.size ≤ b := (ci7.own_c.lt b e).1; simp; omega)).ext hx167) rfl Try.underlying50 elem_hdr26 rfl (by omega) rfl rfl rfl (Blk.rd (c := eHdr) (l := [(Ac, vcl.length, cc)]) hB167) (by rw [ci7.cl]; simp; omega) (by have := ci7.b0_le; have := ci7.g_lt; have := hK8.size; have := hx167.size; omega) ?_)
              intro vc' H9 hC9 hg9
              refine seqQ rfl rfl (yAssign (v := _) rfl rfl) ?_
              refine seqNil ?_
              refine hF13 _ _ ?_; clear hF13
              refine wpRegion ?_
              refine seqQ rfl rfl (yAdd rfl rfl rfl (by unfold In64; omega)) ?_
              refine seqQ rfl rfl (yMove (v := .int _ _) rfl rfl) ?_
              refine seqNil ?_
              -- end loop
              exact loopEnd (i + 1, vc', _, _, _) (by repeat (first | (with_reducible exact Agree.refl _ _) | refine Agree.upd ?_ rfl | refine Agree.over ?_ rfl)) (by show l.length - (i + 1) < l.length - i; omega) ⟨rfl, rfl, trivial⟩ (ci7.done hgn0 hne hgn hgb' hrow7 hrow hrc htc hN8 hK8 hx167 hC9 hg9)
        · skip
          refine wpIf rfl (fun hf => ?_) (fun hf => ?_)
          · skip
            obtain ⟨p, e, hcn⟩ := ci.own_n.hdr hns
            obtain rfl := Option.some.inj e
            clear e
            have ef : (fl l i : Int) - 1 = ((fl l i - 1 : Nat) : Int) := by omega
            have ef' : fl l i - 1 < hs.length := by rw [ci.cl]; omega
            obtain ⟨Am, cm, vm, hhs, hrm, htm⟩ := ci.clk (fl l i - 1) (by have := ci.cl; omega)
            obtain ⟨pv, rfl, hcm⟩ := ci.own_c.hdr hhs
            refine wpSeq fun F42 hF42 => ?_
            refine wpRegionD Try_mixed [.q, .q, .q, .q, .q, .q, .q, .q, .q, .q, .e, .q, .q, .q, .q, .q] 15 [0, 0, 3, 7, 0, 0, 32, 112, 240, 0, 1023, 2047, 4095, 4095, 8191, 32767] [] (by kernel_rfl) _ rfl [0, 1, 2, 3, 4, 5, 6, 7, 8, 9, 10, 11, 12, 13, 14] rfl (by simp) ?_
            refine lexQ rfl rfl rfl rfl (fun H hM => (yMove (v := .slice _ _ _) rfl rfl)) ?_
            refine lexQ rfl rfl rfl rfl (fun H hM => (yMove (v := .int _ _) rfl rfl)) ?_
            refine lexQ rfl rfl rfl rfl (fun H hM => (yIdx1 rfl Try.underlying50 Try.sizeOf26 rfl rfl rfl (rl_lt l i))) ?_
            refine lexQ rfl rfl rfl rfl (fun H hM => (yLoad rfl Try.underlying26 rfl rfl (hM.ext.cell hcn))) ?_
            refine lexQ rfl rfl rfl rfl (fun H hM => (yMove (v := .slice _ _ _) rfl rfl)) ?_
            refine lexQ rfl rfl rfl rfl (fun H hM => (yMove (v := .int _ _) rfl rfl)) ?_
            refine lexQ rfl rfl rfl rfl (fun H hM => (ySub rfl rfl rfl (by unfold In64; omega))) ?_
            refine lexQ rfl rfl rfl rfl (fun H hM => (yIdx1 rfl Try.underlying50 Try.sizeOf26 rfl rfl ef ef')) ?_
            refine lexQ rfl rfl rfl rfl (fun H hM => (yLoad rfl Try.underlying26 rfl rfl (hM.ext.cell hcm))) ?_
            refine lexQ rfl rfl rfl rfl (fun H hM => (yMove (v := .int _ _) rfl rfl)) ?_
            -- e slot 90: call F25<farandole/vclock.Receive> t83 t88 t89
            refine lexX0 rfl rfl rfl rfl rfl (by simp) (fun hM90 => stepCall rfl Try.call25 rfl ?_)
            refine (receive_c An Am cn cm vn vm _ H' hrn.rd hrm.rd (by rw [htn.len]; omega) (by rw [htm.len]; omega)).mono ?_
            rintro v H5 ⟨hx5, s, rfl, hown5⟩
            refine ⟨hx5, fun _ => ?_⟩
            rw [receiveF_thr (rl_lt l) htn htm (by omega) (by omega)] at hown5 ⊢
            obtain ⟨Ar, cr, rfl, -⟩ := hown5.form
            have hrr := hown5.rdM (ci.ltM hgn hgb')
            have ci5 := ci.keep (hx5.keep _) hE0 hgn hgb'
            obtain ⟨p, e, hbi⟩ := ci5.own_b.hdr ci5.row
            obtain rfl := Option.some.inj e
            clear e hown5
            refine lexQ rfl rfl rfl rfl (fun H hM => (yMove (v := .tuple _) rfl rfl)) ?_
            refine lexQ rfl rfl rfl rfl (fun H hM => (yExtract (v := .slice _ _ _) rfl rfl rfl)) ?_
            refine lexQ rfl rfl rfl rfl (fun H hM => (yExtract (v := .int _ _) rfl rfl rfl)) ?_
            refine lexQ rfl rfl rfl rfl (fun H hM => (yAssign (v := .slice _ _ _) rfl rfl)) ?_
            -- tail
            refine lexNil0 rfl (fun hM => ?_)
            refine seqQ rfl rfl (yAssign (v := .int _ _) rfl rfl) ?_
            refine seqNil ?_
            refine hF42 _ _ ?_; clear hF42
            refine wpRegion ?_
            refine seqQ rfl rfl (yMove (v := .slice _ _ _) rfl rfl) ?_
            refine seqQ rfl rfl (yMove (v := .int _ _) rfl rfl) ?_
            refine seqQ rfl rfl (yIdx1 rfl Try.underlying51 Try.sizeOf31 rfl rfl rfl hi) ?_
            refine seqQ rfl rfl (yLoad rfl Try.underlying31 rfl rfl hbi) ?_
            refine seqQ rfl rfl (yMove (v := .int _ _) rfl rfl) ?_
            refine seqQ rfl rfl (ySub rfl rfl rfl (by unfold In64; omega)) ?_
            refine seqQ rfl rfl (yIdx1 rfl Try.underlying31 Try.sizeOf4 rfl rfl ef (by omega)) ?_
            -- e slot None: store T4 t99 [b:true]
            refine seqE0 rfl rfl (stepStoreOwn (hrow.ext hx5) rfl Try.sizeOf4 rfl rfl rfl rfl (by simp; omega) ?_)
            intro H6 hrow6 hK6
            refine seqNil ?_
            -- end cut
            exact hC (Ar, cr, _, _) _ _ (by repeat (first | (with_reducible exact Agree.refl _ _) | refine Agree.upd ?_ rfl | refine Agree.over ?_ rfl)) ⟨rfl, rfl, trivial⟩ ⟨(hx5.keep _).trans hK6, hrr.tr (Tr.store hK6 (by simp)), thr_told (rl_lt l) htn hf htm, hrow6, First.told hf⟩
          · skip
            refine wpSkip ?_
            -- end cut
            exact hC (Ac, cc, _, _) _ _ (by repeat (first | (with_reducible exact Agree.refl _ _) | refine Agree.upd ?_ rfl | refine Agree.over ?_ rfl)) ⟨rfl, rfl, trivial⟩ ⟨Keep.refl _ _, hrc, thr_alone (rl_lt l) htn hf, hrow, First.zero hf⟩
      · skip
        refine wpRegion ?_
        refine seqQ rfl rfl (yMove (v := .int _ _) rfl rfl) ?_
        refine seqQ rfl rfl (yGeq rfl rfl rfl) ?_
        -- guard t74
        refine seqG rfl rfl rfl rfl (fun hf1 => ?_) (fun hf1 => ?_)
        · skip
          refine seqQ rfl rfl (yMove (v := .int _ _) rfl rfl) ?_
          refine seqQ rfl rfl (yMove (v := .int _ _) rfl rfl) ?_
          refine seqQ rfl rfl (yLeq rfl rfl rfl) ?_
          refine seqQ rfl rfl (yPickT (v := .bool _) rfl rfl rfl) ?_
          refine seqNil ?_
          -- end cut
          refine hC () _ _ (by repeat (first | (with_reducible exact Agree.refl _ _) | refine Agree.upd ?_ rfl | refine Agree.over ?_ rfl)) ⟨?_, trivial⟩ rfl
          show Value.bool (decide ((fl l i : Int) ≤ (i : Int))) = Value.bool _
          congr 1
          rw [decide_eq_decide]
          omega
        · skip
          refine seqU rfl rfl ?_
          refine seqU rfl rfl ?_
          refine seqU rfl rfl ?_
          refine seqQ rfl rfl (yPickF (v := .bool _) rfl rfl rfl) ?_
          refine seqNil ?_
          -- end cut
          refine hC () _ _ (by repeat (first | (with_reducible exact Agree.refl _ _) | refine Agree.upd ?_ rfl | refine Agree.over ?_ rfl)) ⟨?_, trivial⟩ rfl
          show Value.bool false = Value.bool _
          congr 1
          rw [eq_comm, decide_eq_false_iff_not]
          omega
    · skip
      obtain rfl : i = l.length := by have := st.i_le; omega
      refine wpExit ?_
      refine hF9 _ _ ?_; clear hF9
      refine wpSeq fun F43 hF43 => ?_
      refine wpSeq fun F44 hF44 => ?_
      refine wpRegion ?_
      refine seqQ rfl rfl (yMove (v := .slice _ _ _) rfl rfl) ?_
      refine seqQ rfl rfl (yLen rfl Try.underlying49 rfl) ?_
      refine seqQ rfl rfl (yMove (v := .int _ _) rfl rfl) ?_
      refine seqNil ?_
      refine hF44 _ _ ?_; clear hF44
      -- loop
      refine wpBlock ?_
      refine wpLoopS [2, 16, 17, 18, 19, 172, 173, 174, 175, 176, 177, 178, 179, 180, 181, 182, 183, 184, 185, 186, 187, 188, 189, 190, 191, 192, 193, 194, 195, 196, 197, 198, 199, 200, 201, 202, 203, 204, 205, 206, 207, 208, 209, 210, 211, 212, 213, 214, 215, 216, 217, 218, 219, 220, 221, 222, 223, 224, 225, 226, 227, 228, 229, 230, 231, 232, 233, 234, 235, 236, 237, 238, 239, 240, 241, 242, 243, 244, 245, 246, 247, 248, 249] (fun i : Nat => [(172, .int .i64 i)]) (fun i H' => i ≤ l.length ∧ H' = H2) (fun i => l.length - i) 0 ⟨rfl, trivial⟩ ⟨Nat.zero_le _, rfl⟩ ?_
      rintro i J2 H' ⟨hi', rfl⟩
      refine wpSeq fun F45 hF45 => ?_
      refine wpRegion ?_
      refine seqQ rfl rfl (yLss rfl rfl rfl) ?_
      refine seqNil ?_
      refine hF45 _ _ ?_; clear hF45
      refine wpSeq fun F46 hF46 => ?_
      -- if t173
      refine wpIf rfl (fun hil => ?_) (fun hil => ?_)
      · skip
        have hil : i < l.length := by omega
        obtain ⟨gi, hbi0, hgi, hBi⟩ := st.rows i hil
        obtain ⟨p, e, hbi⟩ := st.own_b.hdr hbi0
        obtain rfl := Option.some.inj e
        clear e hbi0
        have hri : ∀ m, m < l.length → m < (rowOf (rl l) (fl l) l.length i).length := fun m hm => by rw [rowOf_len]; exact hm
        refine wpSkip ?_
        refine hF46 _ _ ?_; clear hF46
        refine wpSeq fun F47 hF47 => ?_
        refine wpBlock ?_
        refine wpSeq fun F48 hF48 => ?_
        refine wpRegion ?_
        refine seqQ rfl rfl (yMove (v := .int _ _) rfl rfl) ?_
        refine seqQ rfl rfl (yAssign (v := .int _ _) rfl rfl) ?_
        refine seqNil ?_
        refine hF48 _ _ ?_; clear hF48
        refine wpSeq fun F49 hF49 => ?_
        refine wpSeq fun F50 hF50 => ?_
        refine wpRegion ?_
        refine seqQ rfl rfl (yMove (v := .int _ _) rfl rfl) ?_
        refine seqQ rfl rfl (yMove (v := .int _ _) rfl rfl) ?_
        refine seqNil ?_
        refine hF50 _ _ ?_; clear hF50
        -- loop
        refine wpBlock ?_
        refine wpLoopS [17, 18, 176, 177, 178, 179, 180, 181, 182, 183, 184, 185, 186, 187, 188, 189, 190, 191, 192, 193, 194, 195, 196, 197, 198, 199, 200, 201, 202, 203, 204, 205, 206, 207, 208, 209, 210, 211, 212, 213, 214, 215] (fun k : Nat => [(176, .int .i64 k)]) (fun k H3 => k ≤ i ∧ H3 = H') (fun k => i - k) 0 ⟨rfl, trivial⟩ ⟨Nat.zero_le _, rfl⟩ ?_
        rintro k J3 H'' ⟨hk, rfl⟩
        refine wpSeq fun F51 hF51 => ?_
        refine wpRegion ?_
        refine seqQ rfl rfl (yLss rfl rfl rfl) ?_
        refine seqNil ?_
        refine hF51 _ _ ?_; clear hF51
        refine wpSeq fun F52 hF52 => ?_
        -- if t177
        refine wpIf rfl (fun hki => ?_) (fun hki => ?_)
        · skip
          have hki : k < i := by omega
          have hkl : k < l.length := by omega
          obtain ⟨gk, hbk0, hgk, hBk⟩ := st.rows k hkl
          obtain ⟨p, e, hbk⟩ := st.own_b.hdr hbk0
          obtain rfl := Option.some.inj e
          clear e hbk0
          have hrk : ∀ m, m < l.length → m < (rowOf (rl l) (fl l) l.length k).length := fun m hm => by rw [rowOf_len]; exact hm
          refine wpSkip ?_
          refine hF52 _ _ ?_; clear hF52
          refine wpSeq fun F53 hF53 => ?_
          refine wpBlock ?_
          refine wpSeq fun F54 hF54 => ?_
          refine wpRegion ?_
          refine seqQ rfl rfl (yMove (v := .int _ _) rfl rfl) ?_
          refine seqQ rfl rfl (yAssign (v := .int _ _) rfl rfl) ?_
          refine seqNil ?_
          refine hF54 _ _ ?_; clear hF54
          refine wpSeq fun F55 hF55 => ?_
          refine wpRegion ?_
          refine seqQ rfl rfl (yMove (v := .int _ _) rfl rfl) ?_
          refine seqQ rfl rfl (yMove (v := .int _ _) rfl rfl) ?_
          refine seqNil ?_
          refine hF55 _ _ ?_; clear hF55
          -- loop
          refine wpBlock ?_
          refine wpLoopS [18, 180, 181, 182, 183, 184, 185, 186, 187, 188, 189, 190, 191, 192, 193, 194, 195, 196, 197, 198, 199, 200, 201, 202, 203, 204, 205, 206, 207, 208, 209, 210, 211, 212, 213, 214] (fun m : Nat => [(180, .int .i64 m)]) (fun m H3 => m ≤ k ∧ H3 = H'') (fun m => k - m) 0 ⟨rfl, trivial⟩ ⟨Nat.zero_le _, rfl⟩ ?_
          rintro m J4 H3 ⟨hm, rfl⟩
          refine wpSeq fun F56 hF56 => ?_
          refine wpRegion ?_
          refine seqQ rfl rfl (yLss rfl rfl rfl) ?_
          refine seqNil ?_
          refine hF56 _ _ ?_; clear hF56
          refine wpSeq fun F57 hF57 => ?_
          -- if t181
          refine wpIf rfl (fun hmk => ?_) (fun hmk => ?_)
          · skip
            have hmk : m < k := by omega
            have hml : m < l.length := by omega
            refine wpSkip ?_
            refine hF57 _ _ ?_; clear hF57
            refine wpSeq fun F58 hF58 => ?_
            refine wpBlock ?_
            refine wpSeq fun F59 hF59 => ?_
            refine wpRegion ?_
            refine seqQ rfl rfl (yMove (v := .int _ _) rfl rfl) ?_
            refine seqQ rfl rfl (yAssign (v := .int _ _) rfl rfl) ?_
            refine seqNil ?_
            refine hF59 _ _ ?_; clear hF59
            refine wpRegionD Try_mixed [.q, .q, .q, .q, .q, .q, .q, .q, .q, .q, .q, .q, .q, .q, .q, .q, .q, .q, .q, .q, .q, .q, .q, .q, .q, .q, .q, .q, .q, .q, .q, .e] 30 [0, 0, 3, 7, 0, 0, 0, 96, 224, 0, 992, 2016, 4064, 8160, 8160, 32736, 65504, 8160, 262112, 524256, 1048544, 2097120, 2097120, 8388576, 16777184, 2097120, 67108832, 134217696, 268435424, 536870880, 1073741823, 2147483647] [] (by kernel_rfl) _ rfl [0, 1, 2, 3, 4, 5, 6, 7, 8, 9, 10, 11, 12, 13, 14, 15, 16, 17, 18, 19, 20, 21, 22, 23, 24, 25, 26, 27, 28, 29] rfl (by simp) ?_
            refine lexQ rfl rfl rfl rfl (fun H hM => (yMove (v := .slice _ _ _) rfl rfl)) ?_
            refine lexQ rfl rfl rfl rfl (fun H hM => (yMove (v := .int _ _) rfl rfl)) ?_
            refine lexQ rfl rfl rfl rfl (fun H hM => (yIdx1 rfl Try.underlying51 Try.sizeOf31 rfl rfl rfl hil)) ?_
            refine lexQ rfl rfl rfl rfl (fun H hM => (yLoad rfl Try.underlying31 rfl rfl (hM.ext.cell hbi))) ?_
            refine lexQ rfl rfl rfl rfl (fun H hM => (yMove (v := .int _ _) rfl rfl)) ?_
            refine lexQ rfl rfl rfl rfl (fun H hM => (yMove (v := .slice _ _ _) rfl rfl)) ?_
            refine lexQ rfl rfl rfl rfl (fun H hM => (yMove (v := .int _ _) rfl rfl)) ?_
            refine lexQ rfl rfl rfl rfl (fun H hM => (yIdx1 rfl Try.underlying51 Try.sizeOf31 rfl rfl rfl hil)) ?_
            refine lexQ rfl rfl rfl rfl (fun H hM => (yLoad rfl Try.underlying31 rfl rfl (hM.ext.cell hbi))) ?_
            refine lexQ rfl rfl rfl rfl (fun H hM => (yMove (v := .int _ _) rfl rfl)) ?_
            refine lexQ rfl rfl rfl rfl (fun H hM => (yIdx1 rfl Try.underlying31 Try.sizeOf4 rfl rfl rfl hml)) ?_
            refine lexQ rfl rfl rfl rfl (fun H hM => (yLoad rfl Try.underlying4 rfl rfl (hM.ext.cell (hBi.cell (j := m) (v := .bool ((rowOf (rl l) (fl l) l.length i)[m]'(hri m hml))) (by simp [hri m hml]))))) ?_
            -- guard t195
            refine lexGB rfl rfl rfl rfl rfl rfl (fun h3 => ?_) (fun h3 => ?_)
            · skip
              refine lexU rfl rfl rfl ?_
              refine lexU rfl rfl rfl ?_
              refine lexU rfl rfl rfl ?_
              refine lexU rfl rfl rfl ?_
              refine lexU rfl rfl rfl ?_
              refine lexU rfl rfl rfl ?_
              refine lexU rfl rfl rfl ?_
              refine lexU rfl rfl rfl ?_
              refine lexU rfl rfl rfl ?_
              refine lexU rfl rfl rfl ?_
              refine lexU rfl rfl rfl ?_
              refine lexU rfl rfl rfl ?_
              refine lexU rfl rfl rfl ?_
              refine lexU rfl rfl rfl ?_
              refine lexU rfl rfl rfl ?_
              refine lexU rfl rfl rfl ?_
              refine lexQ rfl rfl rfl rfl (fun H hM => (yPickT (v := .bool _) rfl rfl rfl)) ?_
              -- tail
              refine lexNil0 rfl (fun hM => ?_)
              refine seqQ rfl rfl (yIdx1 rfl Try.underlying31 Try.sizeOf4 rfl rfl rfl hml) ?_
              -- e slot None: store T4 t213 t212
              refine seqE0 rfl rfl (stepStoreSame (v := .bool true) rfl Try.sizeOf4 rfl rfl rfl rfl hBi (j := m) (by simp [hri m hml, h3]) ?_)
              refine seqNil ?_
              refine hF58 _ _ ?_; clear hF58
              refine wpRegion ?_
              refine seqQ rfl rfl (yAdd rfl rfl rfl (by unfold In64; omega)) ?_
              refine seqQ rfl rfl (yMove (v := .int _ _) rfl rfl) ?_
              refine seqNil ?_
              -- end loop
              exact loopEnd (m + 1) (by repeat (first | (with_reducible exact Agree.refl _ _) | refine Agree.upd ?_ rfl | refine Agree.over ?_ rfl)) (by omega) ⟨rfl, trivial⟩ ⟨hmk, rfl⟩
            · skip
              refine lexQ rfl rfl rfl rfl (fun H hM => (yMove (v := .slice _ _ _) rfl rfl)) ?_
              refine lexQ rfl rfl rfl rfl (fun H hM => (yMove (v := .int _ _) rfl rfl)) ?_
              refine lexQ rfl rfl rfl rfl (fun H hM => (yIdx1 rfl Try.underlying51 Try.sizeOf31 rfl rfl rfl hil)) ?_
              refine lexQ rfl rfl rfl rfl (fun H hM => (yLoad rfl Try.underlying31 rfl rfl (hM.ext.cell hbi))) ?_
              refine lexQ rfl rfl rfl rfl (fun H hM => (yMove (v := .int _ _) rfl rfl)) ?_
              refine lexQ rfl rfl rfl rfl (fun H hM => (yIdx1 rfl Try.underlying31 Try.sizeOf4 rfl rfl rfl hkl)) ?_
              refine lexQ rfl rfl rfl rfl (fun H hM => (yLoad rfl Try.underlying4 rfl rfl (hM.ext.cell (hBi.cell (j := k) (v := .bool ((rowOf (rl l) (fl l) l.length i)[k]'(hri k hkl))) (by simp [hri k hkl]))))) ?_
              -- guard t203
              refine lexGB rfl rfl rfl rfl rfl rfl (fun h4 => ?_) (fun h4 => ?_)
              · skip
                have h5 : (rowOf (rl l) (fl l) l.length k)[m]'(hrk m hml) = false := by
                  rw [← Bool.not_eq_true]
                  intro h5
                  have := (rowOf_get (hri m hml)).2 (((rowOf_get (hrk m hml)).1 h5).trans ((rowOf_get (hri k hkl)).1 h4))
                  rw [h3] at this
                  cases this
                refine lexQ rfl rfl rfl rfl (fun H hM => (yMove (v := .slice _ _ _) rfl rfl)) ?_
                refine lexQ rfl rfl rfl rfl (fun H hM => (yMove (v := .int _ _) rfl rfl)) ?_
                refine lexQ rfl rfl rfl rfl (fun H hM => (yIdx1 rfl Try.underlying51 Try.sizeOf31 rfl rfl rfl hkl)) ?_
                refine lexQ rfl rfl rfl rfl (fun H hM => (yLoad rfl Try.underlying31 rfl rfl (hM.ext.cell hbk))) ?_
                refine lexQ rfl rfl rfl rfl (fun H hM => (yMove (v := .int _ _) rfl rfl)) ?_
                refine lexQ rfl rfl rfl rfl (fun H hM => (yIdx1 rfl Try.underlying31 Try.sizeOf4 rfl rfl rfl hml)) ?_
                refine lexQ rfl rfl rfl rfl (fun H hM => (yLoad rfl Try.underlying4 rfl rfl (hM.ext.cell (hBk.cell (j := m) (v := .bool ((rowOf (rl l) (fl l) l.length k)[m]'(hrk m hml))) (by simp [hrk m hml]))))) ?_
                refine lexQ rfl rfl rfl rfl (fun H hM => (yPickT (v := .bool _) rfl rfl rfl)) ?_
                refine lexQ rfl rfl rfl rfl (fun H hM => (yPickF (v := .bool _) rfl rfl rfl)) ?_
                -- tail
                refine lexNil0 rfl (fun hM => ?_)
                refine seqQ rfl rfl (yIdx1 rfl Try.underlying31 Try.sizeOf4 rfl rfl rfl hml) ?_
                -- e slot None: store T4 t213 t212
                refine seqE0 rfl rfl (stepStoreSame (v := .bool ((rowOf (rl l) (fl l) l.length k)[m]'(hrk m hml))) rfl Try.sizeOf4 rfl rfl rfl rfl hBi (j := m) (by simp [hri m hml, h3, h5]) ?_)
                refine seqNil ?_
                refine hF58 _ _ ?_; clear hF58
                refine wpRegion ?_
                refine seqQ rfl rfl (yAdd rfl rfl rfl (by unfold In64; omega)) ?_
                refine seqQ rfl rfl (yMove (v := .int _ _) rfl rfl) ?_
                refine seqNil ?_
                -- end loop
                exact loopEnd (m + 1) (by repeat (first | (with_reducible exact Agree.refl _ _) | refine Agree.upd ?_ rfl | refine Agree.over ?_ rfl)) (by omega) ⟨rfl, trivial⟩ ⟨hmk, rfl⟩
              · skip
                refine lexU rfl rfl rfl ?_
                refine lexU rfl rfl rfl ?_
                refine lexU rfl rfl rfl ?_
                refine lexU rfl rfl rfl ?_
                refine lexU rfl rfl rfl ?_
                refine lexU rfl rfl rfl ?_
                refine lexU rfl rfl rfl ?_
                refine lexQ rfl rfl rfl rfl (fun H hM => (yPickF (v := .bool _) rfl rfl rfl)) ?_
                refine lexQ rfl rfl rfl rfl (fun H hM => (yPickF (v := .bool _) rfl rfl rfl)) ?_
                -- tail
                refine lexNil0 rfl (fun hM => ?_)
                refine seqQ rfl rfl (yIdx1 rfl Try.underlying31 Try.sizeOf4 rfl rfl rfl hml) ?_
                -- e slot None: store T4 t213 t212
                refine seqE0 rfl rfl (stepStoreSame (v := .bool false) rfl Try.sizeOf4 rfl rfl rfl rfl hBi (j := m) (by simp [hri m hml, h3]) ?_)
                refine seqNil ?_
                refine hF58 _ _ ?_; clear hF58
                refine wpRegion ?_
                refine seqQ rfl rfl (yAdd rfl rfl rfl (by unfold In64; omega)) ?_
                refine seqQ rfl rfl (yMove (v := .int _ _) rfl rfl) ?_
                refine seqNil ?_
                -- end loop
                exact loopEnd (m + 1) (by repeat (first | (with_reducible exact Agree.refl _ _) | refine Agree.upd ?_ rfl | refine Agree.over ?_ rfl)) (by omega) ⟨rfl, trivial⟩ ⟨hmk, rfl⟩
          · skip
            refine wpExit ?_
            refine hF53 _ _ ?_; clear hF53
            refine wpRegion ?_
            refine seqQ rfl rfl (yAdd rfl rfl rfl (by unfold In64; omega)) ?_
            refine seqQ rfl rfl (yMove (v := .int _ _) rfl rfl) ?_
            refine seqNil ?_
            -- end loop
            exact loopEnd (k + 1) (by repeat (first | (with_reducible exact Agree.refl _ _) | refine Agree.upd ?_ rfl | refine Agree.over ?_ rfl)) (by omega) ⟨rfl, trivial⟩ ⟨hki, rfl⟩
        · skip
          obtain ⟨Ai, ci, vi, hhi, hrdi, hti⟩ := st.clk i hil
          obtain ⟨pv, rfl, hci⟩ := st.own_c.hdr hhi
          refine wpExit ?_
          refine hF49 _ _ ?_; clear hF49
          refine wpSeq fun F60 hF60 => ?_
          refine wpRegion ?_
          refine seqQ rfl rfl (yMove (v := .int _ _) rfl rfl) ?_
          refine seqQ rfl rfl (yMove (v := .int _ _) rfl rfl) ?_
          refine seqNil ?_
          refine hF60 _ _ ?_; clear hF60
          -- loop
          refine wpBlock ?_
          refine wpLoopS [2, 19, 217, 218, 219, 220, 221, 222, 223, 224, 225, 226, 227, 228, 229, 230, 231, 232, 233, 234, 235, 236, 237, 238, 239, 240, 241, 242, 243, 244, 245, 246, 247, 248] (fun k : Nat => [(217, .int .i64 k)]) (fun k H3 => k ≤ i ∧ H3 = H'') (fun k => i - k) 0 ⟨rfl, trivial⟩ ⟨Nat.zero_le _, rfl⟩ ?_
          rintro k J3 H3 ⟨hk, rfl⟩
          refine wpSeq fun F61 hF61 => ?_
          refine wpRegion ?_
          refine seqQ rfl rfl (yLss rfl rfl rfl) ?_
          refine seqNil ?_
          refine hF61 _ _ ?_; clear hF61
          refine wpSeq fun F62 hF62 => ?_
          -- if t218
          refine wpIf rfl (fun hki => ?_) (fun hki => ?_)
          · skip
            have hki : k < i := by omega
            have hkl : k < l.length := by omega
            obtain ⟨Ak, ck, vk, hhk, hrdk, htk⟩ := st.clk k hkl
            obtain ⟨p, e, hck⟩ := st.own_c.hdr hhk
            obtain rfl := Option.some.inj e
            have hb := thr_before (rl_lt l) hki htk hti
            have hbe : beforeB vk vi = (rowOf (rl l) (fl l) l.length i)[k]'(hri k hkl) := by rw [Bool.eq_iff_iff, hb.1, rowOf_get]
            have hcl := st.cl
            refine wpSkip ?_
            refine hF62 _ _ ?_; clear hF62
            refine wpSeq fun F63 hF63 => ?_
            refine wpBlock ?_
            refine wpSeq fun F64 hF64 => ?_
            refine wpRegion ?_
            refine seqQ rfl rfl (yMove (v := .int _ _) rfl rfl) ?_
            refine seqQ rfl rfl (yAssign (v := .int _ _) rfl rfl) ?_
            refine seqNil ?_
            refine hF64 _ _ ?_; clear hF64
            refine wpSeq fun F65 hF65 => ?_
            refine wpRegionD Try_mixed [.q, .q, .q, .q, .q, .q, .q, .q, .e, .q, .q, .q, .q, .q, .q, .q, .q, .q, .q, .q, .q, .q, .q, .q, .q, .q, .e, .q] 26 [0, 0, 3, 7, 0, 0, 48, 112, 255, 0, 0, 1536, 3584, 0, 15872, 32256, 65535, 131071, 262143, 262143, 1048575, 2097151, 262143, 262143, 12845055, 29622271, 67108863, 134217727] [] (by kernel_rfl) _ rfl [0, 1, 2, 3, 4, 5, 6, 7, 8, 9, 10, 11, 12, 13, 14, 15, 16, 17, 18, 19, 20, 21, 22, 23, 24, 25] rfl (by simp) ?_
            refine lexQ rfl rfl rfl rfl (fun H hM => (yMove (v := .slice _ _ _) rfl rfl)) ?_
            refine lexQ rfl rfl rfl rfl (fun H hM => (yMove (v := .int _ _) rfl rfl)) ?_
            refine lexQ rfl rfl rfl rfl (fun H hM => (yIdx1 rfl Try.underlying50 Try.sizeOf26 rfl rfl rfl (by omega))) ?_
            refine lexQ rfl rfl rfl rfl (fun H hM => (yLoad rfl Try.underlying26 rfl rfl (hM.ext.cell hck))) ?_
            refine lexQ rfl rfl rfl rfl (fun H hM => (yMove (v := .slice _ _ _) rfl rfl)) ?_
            refine lexQ rfl rfl rfl rfl (fun H hM => (yMove (v := .int _ _) rfl rfl)) ?_
            refine lexQ rfl rfl rfl rfl (fun H hM => (yIdx1 rfl Try.underlying50 Try.sizeOf26 rfl rfl rfl (by omega))) ?_
            refine lexQ rfl rfl rfl rfl (fun H hM => (yLoad rfl Try.underlying26 rfl rfl (hM.ext.cell hci))) ?_
            -- e slot 228: call F13<farandole/vclock.Before> t223 t227
            refine lexX0 rfl rfl rfl rfl rfl (by simp) (fun hM228 => stepCall rfl Try.call13 rfl ?_)
            refine (before_c Ak Ai ck ci vk vi _ hrdk.rd hrdi.rd (by rw [htk.len]; omega) (by rw [hti.len]; omega)).mono ?_
            rintro v _ ⟨rfl, e⟩; obtain rfl := e.symm; clear e
            refine ⟨Ext.refl _, fun _ => ?_⟩
            refine lexQ rfl rfl rfl rfl (fun H hM => (yMove (v := .slice _ _ _) rfl rfl)) ?_
            refine lexQ rfl rfl rfl rfl (fun H hM => (yMove (v := .int _ _) rfl rfl)) ?_
            refine lexQ rfl rfl rfl rfl (fun H hM => (yIdx1 rfl Try.underlying51 Try.sizeOf31 rfl rfl rfl hil)) ?_
            refine lexQ rfl rfl rfl rfl (fun H hM => (yLoad rfl Try.underlying31 rfl rfl (hM.ext.cell hbi))) ?_
            refine lexQ rfl rfl rfl rfl (fun H hM => (yMove (v := .int _ _) rfl rfl)) ?_
            refine lexQ rfl rfl rfl rfl (fun H hM => (yIdx1 rfl Try.underlying31 Try.sizeOf4 rfl rfl rfl hkl)) ?_
            refine lexQ rfl rfl rfl rfl (fun H hM => (yLoad rfl Try.underlying4 rfl rfl (hM.ext.cell (hBi.cell (j := k) (v := .bool ((rowOf (rl l) (fl l) l.length i)[k]'(hri k hkl))) (by simp [hri k hkl]))))) ?_
            refine lexQ rfl rfl rfl rfl (fun H hM => (yNeqB rfl Try.underlying4 rfl rfl)) ?_
            -- guard t237
            rw [show (!(beforeB vk vi == (rowOf (rl l) (fl l) l.length i)[k]'(hri k hkl))) = false by rw [hbe]; simp]
            refine lexQ rfl rfl rfl rfl (fun H hM => (yMove (v := .bool false) rfl rfl)) ?_
            refine lexQ rfl rfl rfl rfl (fun H hM => (yMove (v := .slice _ _ _) rfl rfl)) ?_
            refine lexQ rfl rfl rfl rfl (fun H hM => (yMove (v := .int _ _) rfl rfl)) ?_
            refine lexQ rfl rfl rfl rfl (fun H hM => (yIdx1 rfl Try.underlying50 Try.sizeOf26 rfl rfl rfl (by omega))) ?_
            refine lexQ rfl rfl rfl rfl (fun H hM => (yLoad rfl Try.underlying26 rfl rfl (hM.ext.cell hci))) ?_
            refine lexQ rfl rfl rfl rfl (fun H hM => (yMove (v := .slice _ _ _) rfl rfl)) ?_
            refine lexQ rfl rfl rfl rfl (fun H hM => (yMove (v := .int _ _) rfl rfl)) ?_
            refine lexQ rfl rfl rfl rfl (fun H hM => (yIdx1 rfl Try.underlying50 Try.sizeOf26 rfl rfl rfl (by omega))) ?_
            refine lexQ rfl rfl rfl rfl (fun H hM => (yLoad rfl Try.underlying26 rfl rfl (hM.ext.cell hck))) ?_
            -- tail
            refine lexNil0 rfl (fun hM => ?_)
            -- e slot 246: call F13<farandole/vclock.Before> t241 t245
            refine seqE rfl rfl (stepCall rfl Try.call13 rfl ?_)
            refine (before_c Ai Ak ci ck vi vk _ hrdi.rd hrdk.rd (by rw [hti.len]; omega) (by rw [htk.len]; omega)).mono ?_
            rintro v _ ⟨rfl, e⟩; obtain rfl := e.symm; clear e
            rw [hb.2]
            refine seqQ rfl rfl (yPickF (v := .bool _) rfl rfl rfl) ?_
            refine seqNil ?_
            refine hF65 _ _ ?_; clear hF65
            -- if t247
            refine wpF rfl ?_
            refine wpSkip ?_
            refine hF63 _ _ ?_; clear hF63
            refine wpRegion ?_
            refine seqQ rfl rfl (yAdd rfl rfl rfl (by unfold In64; omega)) ?_
            refine seqQ rfl rfl (yMove (v := .int _ _) rfl rfl) ?_
            refine seqNil ?_
            -- end loop
            exact loopEnd (k + 1) (by repeat (first | (with_reducible exact Agree.refl _ _) | refine Agree.upd ?_ rfl | refine Agree.over ?_ rfl)) (by omega) ⟨rfl, trivial⟩ ⟨hki, rfl⟩
          · skip
            refine wpExit ?_
            refine hF47 _ _ ?_; clear hF47
            refine wpRegion ?_
            refine seqQ rfl rfl (yAdd rfl rfl rfl (by unfold In64; omega)) ?_
            refine seqQ rfl rfl (yMove (v := .int _ _) rfl rfl) ?_
            refine seqNil ?_
            -- end loop
            exact loopEnd (i + 1) (by repeat (first | (with_reducible exact Agree.refl _ _) | refine Agree.upd ?_ rfl | refine Agree.over ?_ rfl)) (by omega) ⟨rfl, trivial⟩ ⟨hil, rfl⟩
      · skip
        refine wpExit ?_
        refine hF43 _ _ ?_; clear hF43
        refine wpSeq fun F66 hF66 => ?_
        refine wpRegion ?_
        refine seqQ rfl rfl (yAssign (v := .bool _) rfl rfl) ?_
        refine seqNil ?_
        refine hF66 _ _ ?_; clear hF66
        -- ret
        refine wpRet (fin1 (v := .bool _) rfl rfl ?_)
        exact ⟨rfl, st.ext⟩
end Go.Proofs.Ytomejdempmbbmaa
