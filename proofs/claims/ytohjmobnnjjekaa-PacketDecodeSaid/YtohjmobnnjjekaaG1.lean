/- The document's encodings: integers, values, lists. -/
import Derived.Test.YtohjmobnnjjekaaLN
import Derived.Test.YtohjmobnnjjekaaLM
import Derived.Test.YtohjmobnnjjekaaW11
namespace Go.Proofs.Ytohjmobnnjjekaa
open Go.RowKit

set_option maxRecDepth 100000 in
theorem rInt_c (n : Int) (H : Heap) (hn : P64 n) :
    CallsH Try.prog 27 [.int .i64 n] H fun v H' => Own eByte 5 H' H.size v (encI n) ∧ Ext H H' := by
  have hlt := zig_lt hn.1 hn.2
  have hlen := encI_length hn
  obtain ⟨hn1, hn2⟩ := id hn
  refine callsH_of Try.func27 rfl Try.ntmps27 (Nat.le_of_ble_eq_true rfl) ?_
  refine wpSeq fun F1 hF1 => ?_
  refine wpRegion ?_
  refine seqQ rfl rfl (yAssign (v := .slice _ _ _) rfl rfl) ?_
  refine seqNil ?_
  refine hF1 _ _ ?_; clear hF1
  refine wpSeq fun F2 hF2 => ?_
  refine wpRegion ?_
  refine seqQ rfl rfl (yMove (v := .int _ _) rfl rfl) ?_
  refine seqQ rfl rfl (yConv rfl Try.underlying3 Try.underlying76 rfl rfl) ?_
  refine seqQ rfl rfl (yMulK rfl rfl rfl rfl) ?_
  refine seqQ rfl rfl (yAssign (v := .int _ _) rfl rfl) ?_
  refine seqNil ?_
  refine hF2 _ _ ?_; clear hF2
  refine wpSeq fun F3 hF3 => ?_
  refine wpSeq fun F4 hF4 => ?_
  refine wpRegion ?_
  refine seqQ rfl rfl (yMove (v := .int _ _) rfl rfl) ?_
  refine seqQ rfl rfl (yLss rfl rfl rfl) ?_
  refine seqNil ?_
  refine hF4 _ _ ?_; clear hF4
  -- if t9
  refine cutF [3, 10, 11, 12, 13, 14, 15] (fun _ : Unit => [(3, .int .u64 ((zig n : Nat) : Int))]) (fun _ H' => H' = H) hF3 ?_ (fun hC => ?_)
  · skip
    rintro ⟨⟩ J1 H2 rfl
    refine wpSeq fun F5 hF5 => ?_
    refine wpRegion ?_
    refine seqQ rfl rfl (yAssign (v := .slice _ _ _) rfl rfl) ?_
    refine seqNil ?_
    refine hF5 _ _ ?_; clear hF5
    refine wpSeq fun F6 hF6 => ?_
    -- loop
    generalize hzn : zig n = z at hlt
    refine wpBlock ?_
    refine wpLoopS [3, 4, 16, 17, 18, 19, 20, 21, 22, 23, 24, 25, 26] (fun x : Nat × Value => [(3, .int .u64 x.1), (4, x.2)]) (fun x H' => x.1 < 18446744073709551616 ∧ ∃ pre, Own eByte 5 H' H2.size x.2 pre ∧ Ext H2 H' ∧ encI n = pre ++ encU x.1) (fun x => x.1) (z, .slice none 0 0) ⟨rfl, rfl, trivial⟩ ⟨hlt, [], Own.nil _ _, Ext.refl _, by rw [← hzn]; rfl⟩ ?_
    rintro ⟨u, v⟩ J H1 ⟨hu, pre, hown, hg, he⟩
    dsimp only at hu hown he
    obtain ⟨A, c, rfl, -⟩ := hown.form
    have hpl : pre.length ≤ 10 := by rw [he, List.length_append] at hlen; omega
    have hbs := hg.size
    refine wpSeq fun F7 hF7 => ?_
    refine wpSeq fun F8 hF8 => ?_
    refine wpRegion ?_
    refine seqQ rfl rfl (yMove (v := .int _ _) rfl rfl) ?_
    refine seqQ rfl rfl (yGeq rfl rfl rfl) ?_
    refine seqNil ?_
    refine hF8 _ _ ?_; clear hF8
    -- if t17
    refine wpIf rfl (fun hbig => ?_) (fun hbig => ?_)
    · skip
      have hbig : 128 ≤ u := by dsimp only at hbig; omega
      refine wpSkip ?_
      refine hF7 _ _ ?_; clear hF7
      refine wpBlock ?_
      refine wpSeq fun F9 hF9 => ?_
      refine wpRegion ?_
      refine seqQ rfl rfl (yMove (v := .slice _ _ _) rfl rfl) ?_
      refine seqQ rfl rfl (yMove (v := .int _ _) rfl rfl) ?_
      refine seqQ rfl rfl (yRem rfl rfl rfl (by dsimp only; omega)) ?_
      refine seqQ rfl rfl (yConv rfl Try.underlying76 Try.underlying5 rfl (show IntKind.u8.wrap ((u : Int) % 128) = ((u % 128 : Nat) : Int) by rw [IntKind.wrap_u8]; omega)) ?_
      refine seqQ rfl rfl (yAddK rfl rfl rfl (show IntKind.u8.wrap (((u % 128 : Nat) : Int) + 128) = ((UInt8.ofNat (u % 128 + 128)).toNat : Int) by rw [IntKind.wrap_u8, UInt8.toNat_ofNat']; omega)) ?_
      refine seqN rfl rfl (nBuildSlice (vs := [.int _ _]) rfl Try.underlying28 Try.sizeOf5 Try.zeroValue5 rfl rfl rfl rfl) (fun g23 H23 hx23 hB23 hg23 hl23 => ?_)
      -- e slot 24: builtin append t18 t23 : [28, 28]
      refine seqE rfl rfl (stepApp (c := eByte) (hown.ext hx23) rfl Try.underlying28 elem_eByte rfl (by omega) rfl rfl rfl (Blk.rd (c := eByte) (l := [UInt8.ofNat (u % 128 + 128)]) hB23) (by simp; omega) (by have := hx23.size; omega) ?_)
      intro v' H3 hown2 hg2
      obtain ⟨A2, c2, rfl, -⟩ := hown2.form
      refine seqQ rfl rfl (yAssign (v := .slice _ _ _) rfl rfl) ?_
      refine seqNil ?_
      refine hF9 _ _ ?_; clear hF9
      refine wpRegion ?_
      refine seqQ rfl rfl (yMove (v := .int _ _) rfl rfl) ?_
      refine seqQ rfl rfl (yQuoK rfl rfl rfl (by dsimp only; omega) (show IntKind.u64.wrap ((u : Int) / 128) = ((u / 128 : Nat) : Int) by rw [IntKind.wrap_u64]; omega)) ?_
      refine seqQ rfl rfl (yAssign (v := .int _ _) rfl rfl) ?_
      refine seqNil ?_
      -- end loop
      refine loopEnd (u / 128, _) (by repeat (first | (with_reducible exact Agree.refl _ _) | refine Agree.upd ?_ rfl | refine Agree.over ?_ rfl)) (by dsimp only; omega) ⟨rfl, rfl, trivial⟩ ⟨by dsimp only; omega, pre ++ [UInt8.ofNat (u % 128 + 128)], hown2, hg2.ext (hg.trans hx23) (fun g e => (hown.lt g e).1), ?_⟩
      rw [he, encU_big hbig]
      simp
    · skip
      have hbig : u < 128 := by dsimp only at hbig; omega
      refine wpExit ?_
      refine hF6 _ _ ?_; clear hF6
      refine wpSeq fun F10 hF10 => ?_
      refine wpRegion ?_
      refine seqQ rfl rfl (yMove (v := .slice _ _ _) rfl rfl) ?_
      refine seqQ rfl rfl (yMove (v := .int _ _) rfl rfl) ?_
      refine seqQ rfl rfl (yConv rfl Try.underlying76 Try.underlying5 rfl (lowByte u)) ?_
      refine seqN rfl rfl (nBuildSlice (vs := [.int _ _]) rfl Try.underlying28 Try.sizeOf5 Try.zeroValue5 rfl rfl rfl rfl) (fun g30 H30 hx30 hB30 hg30 hl30 => ?_)
      -- e slot 31: builtin append t27 t30 : [28, 28]
      refine seqE rfl rfl (stepApp (c := eByte) (hown.ext hx30) rfl Try.underlying28 elem_eByte rfl (by omega) rfl rfl rfl (Blk.rd (c := eByte) (l := [UInt8.ofNat u]) hB30) (by simp; omega) (by have := hx30.size; omega) ?_)
      intro v' H3 hown2 hg2
      obtain ⟨A2, c2, rfl, -⟩ := hown2.form
      refine seqQ rfl rfl (yAssign (v := .slice _ _ _) rfl rfl) ?_
      refine seqNil ?_
      refine hF10 _ _ ?_; clear hF10
      -- ret
      refine wpRet (fin1 (v := .slice _ _ _) rfl rfl ?_)
      rw [he, encU_small hbig]
      exact ⟨hown2, hg2.ext (hg.trans hx30) (fun g e => (hown.lt g e).1)⟩
  · skip
    refine wpIf rfl (fun h0 => ?_) (fun h0 => ?_)
    · skip
      refine wpRegion ?_
      refine seqQ rfl rfl (yMove (v := .int _ _) rfl rfl) ?_
      refine seqQ rfl rfl (yAdd rfl rfl rfl (by unfold In64; omega)) ?_
      refine seqQ rfl rfl (yNeg rfl rfl (by unfold In64; omega)) ?_
      refine seqQ rfl rfl (yConv rfl Try.underlying3 Try.underlying76 rfl rfl) ?_
      refine seqQ rfl rfl (yMulK rfl rfl rfl rfl) ?_
      refine seqQ rfl rfl (yAddK rfl rfl rfl rfl) ?_
      refine seqQ rfl rfl (yAssign (v := .int _ _) rfl rfl) ?_
      refine seqNil ?_
      -- end cut
      refine hC () _ _ (by repeat (first | (with_reducible exact Agree.refl _ _) | refine Agree.upd ?_ rfl | refine Agree.over ?_ rfl)) ⟨?_, trivial⟩ rfl
      show Value.int _ _ = Value.int _ _
      congr 1
      rw [IntKind.wrap_u64, IntKind.wrap_u64, IntKind.wrap_u64]
      unfold zig
      rw [if_neg (by omega)]
      omega
    · skip
      refine wpSkip ?_
      -- end cut
      refine hC () _ _ (by repeat (first | (with_reducible exact Agree.refl _ _) | refine Agree.upd ?_ rfl | refine Agree.over ?_ rfl)) ⟨?_, trivial⟩ rfl
      show Value.int _ _ = Value.int _ _
      congr 1
      rw [IntKind.wrap_u64, IntKind.wrap_u64]
      unfold zig
      rw [if_pos (by omega)]
      omega
set_option maxRecDepth 100000 in
theorem rBytes_c (A : Option Addr) (ca : Nat) (x : List UInt8) (H : Heap) (hA : Rd eByte H A x) (hs : x.length ≤ 1000000) :
    CallsH Try.prog 88 [.slice A x.length ca] H fun v H' => Own eByte 5 H' H.size v (encBytes x) ∧ Ext H H' := by
  refine callsH_of Try.func88 rfl Try.ntmps88 (Nat.le_of_ble_eq_true rfl) ?_
  refine wpSeq fun F1 hF1 => ?_
  refine wpRegion ?_
  refine seqQ rfl rfl (yAssign (v := .slice _ _ _) rfl rfl) ?_
  refine seqNil ?_
  refine hF1 _ _ ?_; clear hF1
  refine wpSeq fun F2 hF2 => ?_
  refine wpRegion ?_
  refine seqQ rfl rfl (yMove (v := .slice _ _ _) rfl rfl) ?_
  refine seqQ rfl rfl (yLen rfl Try.underlying28 rfl) ?_
  -- e slot 5: call F27<farandole/farandoleref01.Int> t4
  refine seqE rfl rfl (stepCall rfl Try.call27 rfl ?_)
  refine (rInt_c x.length H (P64_len hs)).mono ?_
  rintro v1 H1 ⟨ho1, x1⟩
  obtain ⟨A1, c1, rfl, -⟩ := ho1.form
  have hle := encI_length (P64_len hs)
  refine seqQ rfl rfl (yMove (v := .slice _ _ _) rfl rfl) ?_
  -- e slot 7: builtin append t5 t6 : [28, 28]
  refine seqE rfl rfl (stepApp (c := eByte) ho1 rfl Try.underlying28 elem_eByte rfl (by omega) rfl rfl rfl (hA.ext x1) (by omega) (x1.size) ?_)
  intro v' H2 hown2 hg2
  obtain ⟨A2, c2, rfl, -⟩ := hown2.form
  refine seqQ rfl rfl (yAssign (v := .slice _ _ _) rfl rfl) ?_
  refine seqNil ?_
  refine hF2 _ _ ?_; clear hF2
  -- ret
  refine wpRet (fin1 (v := .slice _ _ _) rfl rfl ?_)
  exact ⟨hown2, hg2.ext x1 (fun g e => (ho1.lt g e).1)⟩
set_option maxRecDepth 100000 in
theorem rText_c (s : ByteArray) (H : Heap) (hs : s.size ≤ 1000000) :
    CallsH Try.prog 80 [.string s] H fun v H' => Own eByte 5 H' H.size v (encBytes s.data.toList) ∧ Ext H H' := by
  refine callsH_of Try.func80 rfl Try.ntmps80 (Nat.le_of_ble_eq_true rfl) ?_
  refine wpSeq fun F1 hF1 => ?_
  refine wpRegion ?_
  refine seqQ rfl rfl (yAssign (v := .slice _ _ _) rfl rfl) ?_
  refine seqNil ?_
  refine hF1 _ _ ?_; clear hF1
  refine wpSeq fun F2 hF2 => ?_
  refine wpRegion ?_
  refine seqQ rfl rfl (yMove (v := .string _) rfl rfl) ?_
  -- e slot 4: convert T9 T28 t3
  refine seqE rfl rfl (stepStrBytes rfl Try.underlying9 Try.underlying28 Try.underlying5 rfl ?_)
  intro g c H1 x1 hg hl rd
  have hl : s.data.toList.length = s.size := rfl
  -- e slot 5: call F88<farandole/farandoleref01.Bytes> t4
  refine seqE rfl rfl (stepCall rfl Try.call88 rfl ?_)
  have hc := rBytes_c (some ⟨g, 0, none⟩) c s.data.toList H1 rd (by omega)
  rw [hl] at hc
  refine hc.mono ?_
  rintro v H2 ⟨o2, x2⟩
  obtain ⟨A2, c2, rfl, -⟩ := o2.form
  refine seqQ rfl rfl (yAssign (v := .slice _ _ _) rfl rfl) ?_
  refine seqNil ?_
  refine hF2 _ _ ?_; clear hF2
  -- ret
  refine wpRet (fin1 (v := .slice _ _ _) rfl rfl ?_)
  exact ⟨o2.mono x1.size, x1.trans x2⟩
set_option maxRecDepth 100000 in
theorem rInts_c (A : Option Addr) (ca : Nat) (x : List Int) (H : Heap) (hA : Rd eInt H A x) (hx64 : ∀ y ∈ x, P64 y) (hs : x.length ≤ 1000000) :
    CallsH Try.prog 29 [.slice A x.length ca] H fun v H' => Own eByte 5 H' H.size v (encInts x) ∧ Ext H H' := by
  refine callsH_of Try.func29 rfl Try.ntmps29 (Nat.le_of_ble_eq_true rfl) ?_
  refine wpSeq fun F1 hF1 => ?_
  refine wpRegion ?_
  refine seqQ rfl rfl (yAssign (v := .slice _ _ _) rfl rfl) ?_
  refine seqNil ?_
  refine hF1 _ _ ?_; clear hF1
  refine wpSeq fun F2 hF2 => ?_
  refine wpRegion ?_
  refine seqQ rfl rfl (yMove (v := .slice _ _ _) rfl rfl) ?_
  refine seqQ rfl rfl (yLen rfl Try.underlying23 rfl) ?_
  -- e slot 7: call F27<farandole/farandoleref01.Int> t6
  refine seqE rfl rfl (stepCall rfl Try.call27 rfl ?_)
  refine (rInt_c x.length H (P64_len hs)).mono ?_
  rintro v1 H1 ⟨ho1, x1⟩
  obtain ⟨A1, c1, rfl, -⟩ := ho1.form
  have hle := encI_length (P64_len hs)
  refine seqQ rfl rfl (yAssign (v := .slice _ _ _) rfl rfl) ?_
  refine seqNil ?_
  refine hF2 _ _ ?_; clear hF2
  refine wpSeq fun F3 hF3 => ?_
  refine wpSeq fun F4 hF4 => ?_
  refine wpRegion ?_
  refine seqQ rfl rfl (yAssign (v := .int _ _) rfl rfl) ?_
  refine seqNil ?_
  refine hF4 _ _ ?_; clear hF4
  -- loop
  refine wpBlock ?_
  refine wpLoopS [3, 4, 8, 9, 10, 11, 12, 13, 14, 15, 16, 17, 18, 19, 20] (fun z : Nat × Value => [(4, .int .i64 z.1), (3, z.2)]) (fun z H' => z.1 ≤ x.length ∧ Own eByte 5 H' H.size z.2 (encI x.length ++ (x.take z.1).flatMap encI) ∧ Ext H H') (fun z => x.length - z.1) (0, _) ⟨rfl, rfl, trivial⟩ ⟨Nat.zero_le _, by simpa using ho1, x1⟩ ?_
  clear ho1 x1
  rintro ⟨k, v⟩ J Hk ⟨hk, ho, hE⟩
  dsimp only at hk ho
  obtain ⟨A2, c2, rfl, -⟩ := ho.form
  have hfl := flat_le encI 10 (x.take k) (fun y hy => encI_length (hx64 y (List.mem_of_mem_take hy)))
  rw [List.length_take] at hfl
  have sk := hE.size
  refine wpSeq fun F5 hF5 => ?_
  refine wpSeq fun F6 hF6 => ?_
  refine wpRegion ?_
  refine seqQ rfl rfl (yMove (v := .int _ _) rfl rfl) ?_
  refine seqQ rfl rfl (yMove (v := .slice _ _ _) rfl rfl) ?_
  refine seqQ rfl rfl (yLen rfl Try.underlying23 rfl) ?_
  refine seqQ rfl rfl (yLss rfl rfl rfl) ?_
  refine seqNil ?_
  refine hF6 _ _ ?_; clear hF6
  -- if t11
  refine wpIf rfl (fun hlt => ?_) (fun hlt => ?_)
  · skip
    have hk : k < x.length := by dsimp only at hlt; omega
    obtain ⟨p, ep, hp⟩ := (hA.ext hE).at1 hk
    refine wpSkip ?_
    refine hF5 _ _ ?_; clear hF5
    refine wpSeq fun F7 hF7 => ?_
    refine wpBlock ?_
    refine wpRegion ?_
    refine seqQ rfl rfl (yMove (v := .slice _ _ _) rfl rfl) ?_
    refine seqQ rfl rfl (yMove (v := .slice _ _ _) rfl rfl) ?_
    refine seqQ rfl rfl (yMove (v := .int _ _) rfl rfl) ?_
    refine seqQ rfl rfl (yIdxP1 rfl Try.underlying23 Try.sizeOf3 rfl rfl ep rfl hk) ?_
    refine seqQ rfl rfl (yLoad rfl Try.underlying3 rfl rfl hp) ?_
    -- e slot 19: call F27<farandole/farandoleref01.Int> t18
    refine seqE rfl rfl (stepCall rfl Try.call27 rfl ?_)
    have h64 := hx64 _ (List.getElem_mem hk)
    refine (rInt_c x[k] Hk h64).mono ?_
    rintro v3 H3 ⟨o3, x3⟩
    obtain ⟨A3, c3, rfl, -⟩ := o3.form
    have hl3 := encI_length h64
    -- e slot 20: builtin append t14 t19 : [28, 28]
    refine seqE rfl rfl (stepApp (c := eByte) (ho.ext x3) rfl Try.underlying28 elem_eByte rfl (by omega) rfl rfl rfl (Own.rd o3).2 (by rw [List.length_append]; omega) (by have := x3.size; omega) ?_)
    intro v4 H4 o4 g4
    obtain ⟨A4, c4, rfl, -⟩ := o4.form
    refine seqQ rfl rfl (yAssign (v := .slice _ _ _) rfl rfl) ?_
    refine seqNil ?_
    refine hF7 _ _ ?_; clear hF7
    refine wpRegion ?_
    refine seqQ rfl rfl (yMove (v := .int _ _) rfl rfl) ?_
    refine seqQ rfl rfl (yAdd rfl rfl rfl (by unfold In64; omega)) ?_
    refine seqQ rfl rfl (yAssign (v := .int _ _) rfl rfl) ?_
    refine seqNil ?_
    -- end loop
    exact loopEnd (k + 1, _) (by repeat (first | (with_reducible exact Agree.refl _ _) | refine Agree.upd ?_ rfl | refine Agree.over ?_ rfl)) (by dsimp only; omega) ⟨rfl, rfl, trivial⟩ ⟨hk, by dsimp only; rw [flat_take encI hk, ← List.append_assoc]; exact o4, g4.ext (hE.trans x3) (fun g e => (ho.lt g e).1)⟩
  · skip
    obtain rfl : k = x.length := by dsimp only at hlt; omega
    rw [List.take_length] at ho
    refine wpExit ?_
    refine hF3 _ _ ?_; clear hF3
    refine wpSeq fun F8 hF8 => ?_
    refine wpRegion ?_
    refine seqQ rfl rfl (yMove (v := .slice _ _ _) rfl rfl) ?_
    refine seqQ rfl rfl (yAssign (v := .slice _ _ _) rfl rfl) ?_
    refine seqNil ?_
    refine hF8 _ _ ?_; clear hF8
    -- ret
    refine wpRet (fin1 (v := .slice _ _ _) rfl rfl ?_)
    simp only [List.take_length]
    exact ⟨ho, hE⟩
end Go.Proofs.Ytohjmobnnjjekaa
