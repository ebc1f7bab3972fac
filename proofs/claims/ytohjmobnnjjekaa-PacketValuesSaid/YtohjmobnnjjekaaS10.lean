/- PacketValues: changing the values of an argument or of a result afterwards does not change other results. Conditions: none beyond the statement's. -/
import Derived.Test.YtohjmobnnjjekaaS9
import Derived.Test.YtohjmobnnjjekaaQV
import Derived.Test.YtohjmobnnjjekaaLN
namespace Go.Proofs.Ytohjmobnnjjekaa
open Go.ChangeShapes Go.WideShapes Go.ChangeAt Go.RowKit Go.Deep

set_option maxRecDepth 100000 in
theorem succByte (b : UInt8) : IntKind.u8.wrap ((b.toNat : Int) + 1) = ((b + 1).toNat : Int) := by
  rw [IntKind.wrap_u8, UInt8.toNat_add]
  have := b.toNat_lt
  simp
set_option maxRecDepth 100000 in
theorem values_walk (p : Pk) (A B : Option Addr) (ca cb : Nat) (H : Heap) (hA : Rd eVal H A p.vals) (hB : Rd eInt H B p.clk) (hl : p.vals.length ≤ 9223372036854775807) (hp : N64 p) :
    CallsH Try.prog 8 [.agg (pkC p A ca B cb).toArray] H fun v H' => v = .bool true ∧ Ext H H' := by
  refine callsH_of Try.func8 rfl Try.ntmps8 (Nat.le_of_ble_eq_true rfl) ?_
  refine wpSeq fun F1 hF1 => ?_
  refine wpRegion ?_
  refine seqN rfl rfl (nBoxA rfl rfl) (fun g1 H1 hx1 hB1 hg1 hl1 => ?_)
  refine seqQ rfl rfl (yAssign (v := .bool _) rfl rfl) ?_
  refine seqNil ?_
  refine hF1 _ _ ?_; clear hF1
  refine wpSeq fun F2 hF2 => ?_
  refine wpSeq fun F3 hF3 => ?_
  refine wpRegion ?_
  -- e slot 10: call F9<farandole/farandolelaw46.awake> 
  refine seqE rfl rfl (stepCall rfl Try.call9 rfl ?_)
  refine (pkAwake_c _).mono ?_
  rintro v Ha ⟨rfl, xa⟩
  have h1 := hB1.ext xa
  have hE := hx1.trans xa
  clear hB1 hx1 xa
  refine seqQ rfl rfl (yNot rfl rfl) ?_
  refine seqNil ?_
  refine hF3 _ _ ?_; clear hF3
  -- if t11
  refine wpF rfl ?_
  refine wpSkip ?_
  refine hF2 _ _ ?_; clear hF2
  refine wpSeq fun F4 hF4 => ?_
  refine wpSeq fun F5 hF5 => ?_
  refine wpRegion ?_
  refine seqQ rfl rfl (yLoadB h1 rfl Try.underlying25 rfl Try.sizeOf25 rfl) ?_
  -- e slot 13: call F10<farandole/farandoleref46.Few> t12
  refine seqE rfl rfl (stepCall rfl Try.call10 rfl ?_)
  refine (few_c p A B ca cb Ha (hA.ext hE) hl).mono ?_
  rintro v Hb ⟨rfl, xb⟩
  replace h1 := h1.ext xb
  replace hE := hE.trans xb
  clear xb
  refine seqQ rfl rfl (yNot rfl rfl) ?_
  -- guard t15
  refine seqGB rfl rfl rfl rfl (fun hf => ?_) (fun hf => ?_)
  · skip
    refine seqU rfl rfl ?_
    refine seqU rfl rfl ?_
    refine seqU rfl rfl ?_
    refine seqQ rfl rfl (yPickT (v := .bool _) rfl rfl rfl) ?_
    refine seqNil ?_
    refine hF5 _ _ ?_; clear hF5
    -- if t19
    refine wpT rfl ?_
    refine wpSeq fun F6 hF6 => ?_
    refine wpRegion ?_
    refine seqQ rfl rfl (yAssign (v := .bool _) rfl rfl) ?_
    refine seqNil ?_
    refine hF6 _ _ ?_; clear hF6
    -- ret
    refine wpRet (fin1 (v := .bool _) rfl rfl ?_)
    exact ⟨rfl, hE⟩
  · skip
    have hf : FewP p := by simpa using hf
    refine seqQ rfl rfl (yLoadB h1 rfl Try.underlying25 rfl Try.sizeOf25 rfl) ?_
    -- e slot 17: call F17<farandole/farandoleref46.Valid> t16
    refine seqE rfl rfl (stepCall rfl Try.call17 rfl ?_)
    refine (rValid_c p A B ca cb Hb (hA.ext hE) (hB.ext hE)).mono ?_
    rintro v Hc ⟨rfl, xc⟩
    replace h1 := h1.ext xc
    replace hE := hE.trans xc
    clear xc
    refine seqQ rfl rfl (yNot rfl rfl) ?_
    refine seqQ rfl rfl (yPickF (v := .bool _) rfl rfl rfl) ?_
    refine seqNil ?_
    refine hF5 _ _ ?_; clear hF5
    -- if t19
    refine wpCond rfl (fun hv => ?_) (fun hv => ?_)
    · skip
      refine wpSeq fun F7 hF7 => ?_
      refine wpRegion ?_
      refine seqQ rfl rfl (yAssign (v := .bool _) rfl rfl) ?_
      refine seqNil ?_
      refine hF7 _ _ ?_; clear hF7
      -- ret
      refine wpRet (fin1 (v := .bool _) rfl rfl ?_)
      exact ⟨rfl, hE⟩
    · skip
      have hv : ValidP p := by simpa using hv
      refine wpSkip ?_
      refine hF4 _ _ ?_; clear hF4
      refine wpSeq fun F8 hF8 => ?_
      refine wpRegion ?_
      refine seqQ rfl rfl (yLoadB h1 rfl Try.underlying25 rfl Try.sizeOf25 rfl) ?_
      refine seqN rfl rfl (nAlloc rfl Try.zeroValue32 rfl) (fun g3 H3 hx3 hB3 hg3 hl3 => ?_)
      -- e slot None: store T32 t3 t20
      refine seqE0 rfl rfl (stepStoreB rfl (by kernel_rfl) rfl rfl rfl hB3 rfl ?_)
      intro Hd h3 hKd
      have xd : Ext Hc Hd := hx3.mine hKd (by simp; omega)
      have l3 := hB3.lt
      have sd := xd.size
      have sc := hE.size
      have l1 := h1.lt
      replace h1 := h1.ext xd
      replace hE := hE.trans xd
      clear hx3 hB3 hKd xd
      have l3 := h3.lt
      have hl4 : p.vals.length ≤ 10 := hf.2.1
      refine seqNil ?_
      refine hF8 _ _ ?_; clear hF8
      refine wpSeq fun F9 hF9 => ?_
      refine wpRegion ?_
      refine seqN rfl rfl (nBuildSliceN (vs := []) rfl Try.underlying22 Try.sizeOf52 Try.zeroValue52 rfl rfl rfl rfl rfl) (fun g21 H21 hx21 hB21 hg21 hl21 => ?_)
      refine seqQ rfl rfl (yFieldAddr rfl Try.underlying25 rfl Try.sizeOf22 rfl rfl) ?_
      refine seqQ rfl rfl (yLoad rfl Try.underlying22 rfl rfl ((h1.ext hx21).cell rfl)) ?_
      -- e slot 24: builtin append t21 t23 : [22, 22]
      refine seqE rfl rfl (stepApp (c := eVal) (Own.lit (c := eVal) (l := []) (base := Hd.size) hB21 hg21 (by simp)) rfl Try.underlying22 elem_eVal rfl (by omega) rfl rfl rfl (hA.ext (hE.trans hx21)) (by simp; omega) hx21.size ?_)
      intro v24 He o24 gr24
      rw [List.nil_append] at o24
      obtain ⟨A3, c3, rfl, -⟩ := o24.form
      have xe : Ext Hd He := gr24.ext hx21 (fun g e => by cases e; exact hg21)
      have se := xe.size
      clear gr24
      refine seqQ rfl rfl (yFieldAddr rfl Try.underlying32 rfl Try.sizeOf22 rfl rfl) ?_
      -- e slot None: store T22 t25 t24
      refine seqE0 rfl rfl (stepStore rfl Try.sizeOf22 rfl rfl rfl rfl (h3.ext xe) (Nat.le_of_ble_eq_true rfl) ?_)
      intro Hf h4 hKf
      replace h4 : Blk Hf g3 (pkC p A3 c3 B cb) 32 := h4
      replace h1 := (h1.ext xe).keep hKf (by simp; omega)
      replace hE := (hE.trans xe).mine hKf (by simp; omega)
      have sf := hKf.size
      have b3 := o24.lt
      have o3 := o24.keep hKf (fun g e => by have := (b3 g e).1; simp; omega)
      clear h3 o24 xe hKf hx21 hB21
      have hl5 : p.clk.length ≤ 10 := hf.2.2
      refine seqNil ?_
      refine hF9 _ _ ?_; clear hF9
      refine wpSeq fun F10 hF10 => ?_
      refine wpRegion ?_
      refine seqN rfl rfl (nBuildSlice (vs := []) rfl Try.underlying23 Try.sizeOf3 Try.zeroValue3 rfl rfl rfl rfl) (fun g26 H26 hx26 hB26 hg26 hl26 => ?_)
      refine seqQ rfl rfl (yFieldAddr rfl Try.underlying25 rfl Try.sizeOf23 rfl rfl) ?_
      refine seqQ rfl rfl (yLoad rfl Try.underlying23 rfl rfl ((h1.ext hx26).cell rfl)) ?_
      -- e slot 29: builtin append t26 t28 : [23, 23]
      refine seqE rfl rfl (stepApp (c := eInt) (Own.lit (c := eInt) (l := []) (base := Hf.size) hB26 hg26 (by simp)) rfl Try.underlying23 elem_eInt rfl (by omega) rfl rfl rfl (hB.ext (hE.trans hx26)) (by simp; omega) hx26.size ?_)
      intro v29 Hg o29 gr29
      rw [List.nil_append] at o29
      obtain ⟨A4, c4, rfl, -⟩ := o29.form
      have xg : Ext Hf Hg := gr29.ext hx26 (fun g e => by cases e; exact hg26)
      have sg := xg.size
      clear gr29
      refine seqQ rfl rfl (yFieldAddr rfl Try.underlying32 rfl Try.sizeOf23 rfl rfl) ?_
      -- e slot None: store T23 t30 t29
      refine seqE0 rfl rfl (stepStore rfl Try.sizeOf23 rfl rfl rfl rfl (h4.ext xg) (Nat.le_of_ble_eq_true rfl) ?_)
      intro Hh h5 hKh
      replace h5 : Blk Hh g3 (pkC p A3 c3 A4 c4) 32 := h5
      replace h1 := (h1.ext xg).keep hKh (by simp; omega)
      replace hE := (hE.trans xg).mine hKh (by simp; omega)
      replace o3 := (o3.ext xg).keep hKh (fun g e => by have := (b3 g e).1; simp; omega)
      have sh := hKh.size
      have b4 := o29.lt
      have o4 := o29.keep hKh (fun g e => by have := (b4 g e).1; simp; omega)
      clear h4 o29 xg hKh hx26 hB26
      refine seqNil ?_
      refine hF10 _ _ ?_; clear hF10
      refine wpSeq fun F11 hF11 => ?_
      refine wpRegion ?_
      refine seqQ rfl rfl (yLoadB h5 rfl Try.underlying32 rfl Try.sizeOf32 rfl) ?_
      -- e slot 33: call F11<farandole/packet.Encode> t32
      refine seqE rfl rfl (stepCall rfl Try.call11 rfl ?_)
      refine (Encode_c p A3 A4 c3 c4 Hh (Own.rd o3).2 (Own.rd o4).2 hp (few_sz hf)).mono ?_
      rintro v Hi ⟨E1, ce, rfl, oe, xi⟩
      have u1 : (encP p).1 = 0 := by rw [encP_valid hv]
      rw [u1]
      replace h1 := h1.ext xi
      replace h5 := h5.ext xi
      replace hE := hE.trans xi
      replace o4 := o4.ext xi
      have si := xi.size
      have bE := oe.lt
      have hcs : ∀ x ∈ p.clk, 0 ≤ x ∧ x ≤ 1099511627776 := fun x hx => by simpa [seqB] using hv.few.cs x hx
      obtain ⟨n, hn⟩ : ∃ n, n = p.clk.length := ⟨_, rfl⟩
      have hlen := encPk_len hv (few_enc hf hp)
      have hlen2 := encP_len hv
      clear o3 xi
      refine seqQ rfl rfl (yMove (v := .tuple _) rfl rfl) ?_
      refine seqQ rfl rfl (yExtract (v := .slice _ _ _) rfl rfl rfl) ?_
      refine seqQ rfl rfl (yExtract (v := .int _ _) rfl rfl rfl) ?_
      refine seqQ rfl rfl (yAssign (v := .slice _ _ _) rfl rfl) ?_
      refine seqQ rfl rfl (yAssign (v := .int _ _) rfl rfl) ?_
      refine seqNil ?_
      refine hF11 _ _ ?_; clear hF11
      refine wpSeq fun F12 hF12 => ?_
      refine wpSeq fun F13 hF13 => ?_
      refine wpRegion ?_
      refine seqQ rfl rfl (yAssign (v := .int _ _) rfl rfl) ?_
      refine seqNil ?_
      refine hF13 _ _ ?_; clear hF13
      -- loop
      refine wpBlock ?_
      refine wpLoopS [6, 36, 37, 38, 39, 40, 41, 42, 43, 44, 45, 46, 47, 48, 49] (fun k : Nat => [(6, .int .i64 k)]) (fun k H' => k ≤ n ∧ Ext H H' ∧ Blk H' g1 (pkC p A ca B cb) 25 ∧ Blk H' g3 (pkC p A3 c3 A4 c4) 32 ∧ Own eByte 5 H' Hh.size (.slice E1 (encP p).2.length ce) (encP p).2 ∧ ∃ l : List Int, l.length = n ∧ (∀ j x, k ≤ j → l[j]? = some x → 0 ≤ x ∧ x ≤ 1099511627776) ∧ Own eInt 3 H' Hf.size (.slice A4 p.clk.length c4) l) (fun k => n - k) 0 ⟨rfl, trivial⟩ ⟨Nat.zero_le _, hE, h1, h5, oe, p.clk, hn.symm, fun j x _ hx => hcs x (List.mem_of_getElem? hx), o4⟩ ?_
      clear hE h1 h5 oe o4
      rintro k J Hk ⟨hk, hE, h1, h5, oe, l, hln, hlx, o4⟩
      refine wpSeq fun F14 hF14 => ?_
      refine wpSeq fun F15 hF15 => ?_
      refine wpRegion ?_
      refine seqQ rfl rfl (yMove (v := .int _ _) rfl rfl) ?_
      refine seqQ rfl rfl (yFieldAddr rfl Try.underlying32 rfl Try.sizeOf23 rfl rfl) ?_
      refine seqQ rfl rfl (yLoad rfl Try.underlying23 rfl rfl (h5.cell rfl)) ?_
      refine seqQ rfl rfl (yLen rfl Try.underlying23 rfl) ?_
      refine seqQ rfl rfl (yLss rfl rfl rfl) ?_
      refine seqNil ?_
      refine hF15 _ _ ?_; clear hF15
      -- if t40
      refine wpIf rfl (fun hlt => ?_) (fun hlt => ?_)
      · skip
        have hk : k < n := by omega
        have hkl : k < l.length := by omega
        have hx := hlx k l[k] (Nat.le_refl _) (List.getElem?_eq_getElem hkl)
        obtain ⟨q, rfl, hq⟩ := (Own.rd o4).2.at1 hkl
        have hqb := b4 q.block rfl
        refine wpSkip ?_
        refine hF14 _ _ ?_; clear hF14
        refine wpSeq fun F16 hF16 => ?_
        refine wpBlock ?_
        refine wpRegion ?_
        refine seqQ rfl rfl (yFieldAddr rfl Try.underlying32 rfl Try.sizeOf23 rfl rfl) ?_
        refine seqQ rfl rfl (yLoad rfl Try.underlying23 rfl rfl (h5.cell rfl)) ?_
        refine seqQ rfl rfl (yMove (v := .int _ _) rfl rfl) ?_
        refine seqQ rfl rfl (yIdx1 rfl Try.underlying23 Try.sizeOf3 rfl rfl rfl (by omega)) ?_
        refine seqQ rfl rfl (yLoad rfl Try.underlying3 rfl rfl hq) ?_
        refine seqQ rfl rfl (yAdd rfl rfl rfl (by unfold In64; omega)) ?_
        refine seqQ rfl rfl (yIdx1 rfl Try.underlying23 Try.sizeOf3 rfl rfl rfl (by omega)) ?_
        -- e slot None: store T3 t49 t48
        refine seqE0 rfl rfl (stepStoreOwn (z := (l[k] + 1)) o4 rfl Try.sizeOf3 rfl rfl rfl rfl hkl ?_)
        intro Hl o5 hKl
        refine seqNil ?_
        refine hF16 _ _ ?_; clear hF16
        refine wpRegion ?_
        refine seqQ rfl rfl (yMove (v := .int _ _) rfl rfl) ?_
        refine seqQ rfl rfl (yAdd rfl rfl rfl (by unfold In64; omega)) ?_
        refine seqQ rfl rfl (yAssign (v := .int _ _) rfl rfl) ?_
        refine seqNil ?_
        -- end loop
        exact loopEnd (k + 1) (by repeat (first | (with_reducible exact Agree.refl _ _) | refine Agree.upd ?_ rfl | refine Agree.over ?_ rfl)) (by omega) ⟨rfl, trivial⟩ ⟨hk, hE.mine hKl (by simp; omega), h1.keep hKl (by simp; omega), h5.keep hKl (by simp; omega), oe.keep hKl (fun g e => by have := (bE g e).1; simp; omega), l.set k (l[k] + 1), by rw [List.length_set]; exact hln, fun j x hj hx => hlx j x (by omega) (by rw [List.getElem?_set_ne (by omega)] at hx; exact hx), o5⟩
      · skip
        clear o4 hlx
        refine wpExit ?_
        refine hF12 _ _ ?_; clear hF12
        refine wpSeq fun F17 hF17 => ?_
        refine wpRegion ?_
        refine seqQ rfl rfl (yMove (v := .slice _ _ _) rfl rfl) ?_
        -- e slot 52: call F19<farandole/packet.Decode> t51
        refine seqE rfl rfl (stepCall rfl Try.call19 rfl ?_)
        have hce : (encP p).2.length ≤ ce := by
          obtain ⟨_, _, e, h, -⟩ := oe.form
          cases e
          exact h
        have hc := Decode_c E1 ce (encP p).2 Hk (Own.rd oe).2 hce (by omega)
        rw [dec_enc hv hp] at hc
        refine hc.mono ?_
        rintro v Hl ⟨X1, cx, X2, cy, rfl, ov, oc, xl⟩
        have sl := xl.size
        have bk := fun g e => (oe.lt g e).2
        have bv := fun g e => (ov.lt g e).1
        have bc := fun g e => (oc.lt g e).1
        refine seqQ rfl rfl (yMove (v := .tuple _) rfl rfl) ?_
        refine seqQ rfl rfl (yExtract (v := .agg _) rfl rfl rfl) ?_
        refine seqQ rfl rfl (yExtract (v := .int _ _) rfl rfl rfl) ?_
        refine seqN rfl rfl (nAlloc rfl Try.zeroValue32 rfl) (fun g7 H7 hx7 hB7 hg7 hl7 => ?_)
        -- e slot None: store T32 t7 t53
        refine seqE0 rfl rfl (stepStoreB rfl (by kernel_rfl) rfl rfl rfl hB7 rfl ?_)
        intro Hm h7 hKm
        have xm : Ext Hl Hm := hx7.mine hKm (by simp; omega)
        replace h7 : Blk Hm g7 (pkC p X1 cx X2 cy) 32 := h7
        have sm := xm.size
        refine seqQ rfl rfl (yAssign (v := .int _ _) rfl rfl) ?_
        refine seqNil ?_
        refine hF17 _ _ ?_; clear hF17
        refine wpSeq fun F18 hF18 => ?_
        refine wpSeq fun F19 hF19 => ?_
        refine wpRegion ?_
        refine seqQ rfl rfl (yAssign (v := .int _ _) rfl rfl) ?_
        refine seqNil ?_
        refine hF19 _ _ ?_; clear hF19
        -- loop
        refine wpBlock ?_
        refine wpLoopS [9, 55, 56, 57, 58, 59, 60, 61, 62, 63, 64, 65, 66] (fun k : Nat => [(9, .int .i64 k)]) (fun k H' => k ≤ (encP p).2.length ∧ Ext H H' ∧ Blk H' g1 (pkC p A ca B cb) 25 ∧ Blk H' g7 (pkC p X1 cx X2 cy) 32 ∧ Own eVal 52 H' Hk.size (.slice X1 p.vals.length cx) p.vals ∧ Own eInt 3 H' Hk.size (.slice X2 p.clk.length cy) p.clk ∧ ∃ l : List UInt8, l.length = (encP p).2.length ∧ Own eByte 5 H' Hh.size (.slice E1 (encP p).2.length ce) l) (fun k => (encP p).2.length - k) 0 ⟨rfl, trivial⟩ ⟨Nat.zero_le _, (hE.trans xl).trans xm, (h1.ext xl).ext xm, h7, ov.ext xm, oc.ext xm, (encP p).2, rfl, (oe.ext xl).ext xm⟩ ?_
        clear hE h1 h7 ov oc oe h5 hc xl xm hKm hx7 hB7
        rintro k' J' Hn ⟨hk', hE, h1, h7, ov, oc, l', hl', oe⟩
        refine wpSeq fun F20 hF20 => ?_
        refine wpSeq fun F21 hF21 => ?_
        refine wpRegion ?_
        refine seqQ rfl rfl (yMove (v := .int _ _) rfl rfl) ?_
        refine seqQ rfl rfl (yMove (v := .slice _ _ _) rfl rfl) ?_
        refine seqQ rfl rfl (yLen rfl Try.underlying28 rfl) ?_
        refine seqQ rfl rfl (yLss rfl rfl rfl) ?_
        refine seqNil ?_
        refine hF21 _ _ ?_; clear hF21
        -- if t58
        refine wpIf rfl (fun hlt' => ?_) (fun hlt' => ?_)
        · skip
          have hk' : k' < (encP p).2.length := by omega
          have hkl : k' < l'.length := by omega
          obtain ⟨q, rfl, hq⟩ := (Own.rd oe).2.at1 hkl
          have hqb := bk q.block rfl
          have hqb2 := bE q.block rfl
          refine wpSkip ?_
          refine hF20 _ _ ?_; clear hF20
          refine wpSeq fun F22 hF22 => ?_
          refine wpBlock ?_
          refine wpRegion ?_
          refine seqQ rfl rfl (yMove (v := .slice _ _ _) rfl rfl) ?_
          refine seqQ rfl rfl (yMove (v := .int _ _) rfl rfl) ?_
          refine seqQ rfl rfl (yIdx1 rfl Try.underlying28 Try.sizeOf5 rfl rfl rfl (by omega)) ?_
          refine seqQ rfl rfl (yLoad rfl Try.underlying5 rfl rfl hq) ?_
          refine seqQ rfl rfl (yAddK rfl rfl rfl (succByte l'[k'])) ?_
          refine seqQ rfl rfl (yIdx1 rfl Try.underlying28 Try.sizeOf5 rfl rfl rfl (by omega)) ?_
          -- e slot None: store T5 t66 t65
          refine seqE0 rfl rfl (stepStoreOwn (z := (l'[k'] + 1)) oe rfl Try.sizeOf5 rfl rfl rfl rfl hkl ?_)
          intro Ho o5 hKo
          refine seqNil ?_
          refine hF22 _ _ ?_; clear hF22
          refine wpRegion ?_
          refine seqQ rfl rfl (yMove (v := .int _ _) rfl rfl) ?_
          refine seqQ rfl rfl (yAdd rfl rfl rfl (by unfold In64; omega)) ?_
          refine seqQ rfl rfl (yAssign (v := .int _ _) rfl rfl) ?_
          refine seqNil ?_
          -- end loop
          exact loopEnd (k' + 1) (by repeat (first | (with_reducible exact Agree.refl _ _) | refine Agree.upd ?_ rfl | refine Agree.over ?_ rfl)) (by omega) ⟨rfl, trivial⟩ ⟨hk', hE.mine hKo (by simp; omega), h1.keep hKo (by simp; omega), h7.keep hKo (by simp; omega), ov.keep hKo (fun g e => by have := bv g e; simp; omega), oc.keep hKo (fun g e => by have := bc g e; simp; omega), l'.set k' (l'[k'] + 1), by rw [List.length_set]; exact hl', o5⟩
        · skip
          refine wpExit ?_
          refine hF18 _ _ ?_; clear hF18
          refine wpSeq fun F23 hF23 => ?_
          refine wpRegion ?_
          refine seqQ rfl rfl (yMove (v := .int _ _) rfl rfl) ?_
          refine seqQ rfl rfl (yEql rfl rfl rfl) ?_
          refine seqQ rfl rfl (yMove (v := .bool true) rfl rfl) ?_
          refine seqQ rfl rfl (yMove (v := .int _ _) rfl rfl) ?_
          refine seqQ rfl rfl (yEql rfl rfl rfl) ?_
          refine seqQ rfl rfl (yPickT (v := .bool _) rfl rfl rfl) ?_
          refine seqQ rfl rfl (yMove (v := .bool true) rfl rfl) ?_
          refine seqQ rfl rfl (yFieldAddr rfl Try.underlying32 rfl Try.sizeOf23 rfl rfl) ?_
          refine seqQ rfl rfl (yLoad rfl Try.underlying23 rfl rfl (h7.cell rfl)) ?_
          refine seqQ rfl rfl (yFieldAddr rfl Try.underlying25 rfl Try.sizeOf23 rfl rfl) ?_
          refine seqQ rfl rfl (yLoad rfl Try.underlying23 rfl rfl (h1.cell rfl)) ?_
          -- e slot 78: call F21<farandole/farandoleref01.SameInts> t75 t77
          refine seqE rfl rfl (stepCall rfl Try.call21 rfl ?_)
          refine (sameI_c X2 B cy cb p.clk p.clk Hn (Own.rd oc).2 (hB.ext hE) (by omega)).mono ?_
          rintro v Hp ⟨hv2, e⟩
          obtain rfl : v = .bool true := hv2.trans (by simp)
          obtain rfl := e.symm
          clear e
          refine seqQ rfl rfl (yPickT (v := .bool _) rfl rfl rfl) ?_
          refine seqQ rfl rfl (yMove (v := .bool true) rfl rfl) ?_
          refine seqQ rfl rfl (yFieldAddr rfl Try.underlying32 rfl Try.sizeOf22 rfl rfl) ?_
          refine seqQ rfl rfl (yLoad rfl Try.underlying22 rfl rfl (h7.cell rfl)) ?_
          refine seqQ rfl rfl (yFieldAddr rfl Try.underlying25 rfl Try.sizeOf22 rfl rfl) ?_
          refine seqQ rfl rfl (yLoad rfl Try.underlying22 rfl rfl (h1.cell rfl)) ?_
          -- e slot 85: call F22<farandole/farandoleref01.SameValues> t82 t84
          refine seqE rfl rfl (stepCall rfl Try.call22 rfl ?_)
          refine (sameV_c X1 A cx ca p.vals p.vals Hn (Own.rd ov).2 (hA.ext hE) (by omega)).mono ?_
          rintro v Hq ⟨hv3, e⟩
          obtain rfl : v = .bool true := hv3.trans (by simp)
          obtain rfl := e.symm
          clear e
          refine seqQ rfl rfl (yPickT (v := .bool _) rfl rfl rfl) ?_
          refine seqQ rfl rfl (yAssign (v := .bool _) rfl rfl) ?_
          refine seqNil ?_
          refine hF23 _ _ ?_; clear hF23
          -- ret
          refine wpRet (fin1 (v := .bool _) rfl rfl ?_)
          exact ⟨rfl, hE⟩
set_option maxRecDepth 100000 in
set_option maxRecDepth 100000 in
theorem packetValues_lifted (os : Os) (started : os.Started) (H : Type) (enc : TypeId × Value → H) :
    ReturnsInHanded {} Try.checked os 8 .any (Rows.packetValuesSpec.pre6 enc Try.prog Try.f8 Rows.packetValuesRow.domain false) (Rows.packetValuesSpec.post enc Try.prog Try.f8 false true false false) := by
  refine law_lifted started Rows.packetValuesSpec rfl (by kernel_rfl) Try.func8 rfl
    (fun ds h => by match ds, h with | [_], _ => rfl) (of_decide_eq_true (by kernel_rfl))
    (ChangeSpec.witness6 (enc := enc) (C := Try.checked) false ⟨#[], #[.agg #[.int .i64 0, .int .i64 0, .int .i64 0, .int .i64 0, .int .i64 0, .int .i64 0, .int .i64 0, .slice none 0 0, .slice none 0 0]], []⟩ 8 (by kernel_rfl) (by kernel_rfl) (by kernel_rfl) (by kernel_rfl)) ?_
  intro W base args ds p hval hA
  rw [Try.params8] at hA hval
  obtain ⟨v0, d0, rfl, rfl, h0⟩ := trodAll_one hA
  have g0 := hval 0 _ v0 rfl rfl
  obtain ⟨⟨p, ⟨A, ca⟩, ⟨B, cb⟩⟩, rfl, kA, kB, hl, hp⟩ := (opn_pk W).agg Try.underlying25 rfl g0 h0
  exact values_walk p A B ca cb W.heap kA kB hl hp
set_option maxRecDepth 100000 in
theorem packetValues_holds : Rows.PacketValuesSaid :=
  OpenClaim.holds_of_wide 8 Try.f8 rfl rfl rfl rfl rfl rfl rfl ⟨rfl, rfl, rfl, rfl, rfl⟩ rfl rfl rfl rfl rfl (by kernel_rfl) Try.func8 (by kernel_rfl)
    (of_decide_eq_true (by kernel_rfl)) (by unfold Func.isWrapper; first | (rw [if_pos (by decide +kernel)]; kernel_rfl) | (rw [if_neg (by decide +kernel)]; exact ⟨rfl, rfl⟩))
    (fun os started H enc _ => packetValues_lifted os started H enc)
end Go.Proofs.Ytohjmobnnjjekaa
