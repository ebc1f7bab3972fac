/- The document: a sealed byte string opened, a packet decoded. -/
import Derived.Test.YtohjmobnnjjekaaG7
namespace Go.Proofs.Ytohjmobnnjjekaa
open Go.RowKit

set_option maxRecDepth 100000 in
theorem rOpen_c (A : Option Addr) (ca : Nat) (b : List UInt8) (H : Heap) (hA : Rd eByte H A b) (hca : b.length ≤ ca) (hl : b.length ≤ 1000000000) :
    CallsH Try.prog 45 [.slice A b.length ca] H fun v H' => ∃ B cb, v = .tuple #[.slice B (opened b).2.length cb, .int .i64 (opened b).1] ∧ Own eByte 5 H' H.size (.slice B (opened b).2.length cb) (opened b).2 ∧ Ext H H' := by
  refine callsH_of Try.func45 rfl Try.ntmps45 (Nat.le_of_ble_eq_true rfl) ?_
  refine wpSeq fun F1 hF1 => ?_
  refine wpRegion ?_
  refine seqQ rfl rfl (yAssign (v := .slice _ _ _) rfl rfl) ?_
  refine seqQ rfl rfl (yAssign (v := .int _ _) rfl rfl) ?_
  refine seqNil ?_
  refine hF1 _ _ ?_; clear hF1
  refine wpSeq fun F2 hF2 => ?_
  refine wpSeq fun F3 hF3 => ?_
  refine wpRegion ?_
  refine seqQ rfl rfl (yMove (v := .slice _ _ _) rfl rfl) ?_
  refine seqQ rfl rfl (yLen rfl Try.underlying28 rfl) ?_
  refine seqQ rfl rfl (yLss rfl rfl rfl) ?_
  refine seqNil ?_
  refine hF3 _ _ ?_; clear hF3
  -- if t7
  refine wpIf rfl (fun h0 => ?_) (fun h0 => ?_)
  · skip
    refine wpSeq fun F4 hF4 => ?_
    refine wpRegion ?_
    refine seqQ rfl rfl (yAssign (v := .slice _ _ _) rfl rfl) ?_
    refine seqQ rfl rfl (yAssign (v := .int _ _) rfl rfl) ?_
    refine seqNil ?_
    refine hF4 _ _ ?_; clear hF4
    -- ret
    refine wpRet (fin2 (v := .slice _ _ _) (v' := .int _ _) rfl rfl rfl ?_)
    rw [opened_few (by omega)]
    exact ⟨none, 0, rfl, Own.nil _ _, Ext.refl _⟩
  · skip
    have h8 : 8 ≤ b.length := by omega
    obtain ⟨n, hn⟩ : ∃ n, n = b.length - 8 := ⟨_, rfl⟩
    have hz : ((b.length : Int) - 8) = (n : Int) := by omega
    have hd : (b.drop n).length = 8 := by rw [List.length_drop]; omega
    have hn8 : (b.take n).length = n := by rw [List.length_take]; omega
    have hdr : Rd eByte H _ (b.drop n) := hA.drop (k := n) hca
    refine wpSkip ?_
    refine hF2 _ _ ?_; clear hF2
    refine wpSeq fun F5 hF5 => ?_
    refine wpRegion ?_
    refine seqN rfl rfl (nBuildSlice (vs := []) rfl Try.underlying28 Try.sizeOf5 Try.zeroValue5 rfl rfl rfl rfl) (fun g8 H8 hx8 hB8 hg8 hl8 => ?_)
    refine seqQ rfl rfl (yMove (v := .slice _ _ _) rfl rfl) ?_
    refine seqQ rfl rfl (yMove (v := .slice _ _ _) rfl rfl) ?_
    refine seqQ rfl rfl (yLen rfl Try.underlying28 rfl) ?_
    refine seqQ rfl rfl (ySub rfl rfl rfl (by unfold In64; omega)) ?_
    refine seqQ rfl rfl (ySliceH rfl Try.underlying28 Try.sizeOf5 rfl rfl hz (by omega)) ?_
    -- e slot 14: builtin append t8 t13 : [28, 28]
    refine seqE rfl rfl (stepApp (c := eByte) (Own.lit (c := eByte) (l := []) (base := H.size) hB8 hg8 (by simp)) rfl Try.underlying28 elem_eByte rfl (by omega) rfl rfl hn8.symm ((hA.take n).ext hx8) (by simp; omega) hx8.size ?_)
    intro v H1 o1 gr
    rw [List.nil_append] at o1
    obtain ⟨A1, c1, rfl, -⟩ := o1.form
    have x1 : Ext H H1 := gr.ext hx8 (by rintro g e; obtain rfl := Option.some.inj e; exact hg8)
    refine seqQ rfl rfl (yAssign (v := .slice _ _ _) rfl rfl) ?_
    refine seqNil ?_
    refine hF5 _ _ ?_; clear hF5
    refine wpSeq fun F6 hF6 => ?_
    refine wpSeq fun F7 hF7 => ?_
    refine wpRegionD Try_mixed [.q, .e, .e, .e, .q, .q, .q, .q, .q, .q, .q] 10 [0, 1, 3, 7, 0, 0, 32, 96, 240, 496, 1023] [] (by kernel_rfl) _ rfl [0, 1, 2, 3, 4, 5, 6, 7, 8, 9] rfl (by simp) ?_
    refine lexQ rfl rfl rfl rfl (fun H hM => (yMove (v := .slice _ _ _) rfl rfl)) ?_
    -- e slot 16: call F55<farandole/farandoleref02.Of> t15
    refine lexX0 rfl rfl rfl rfl rfl (by simp) (fun hM16 => stepCall rfl Try.call55 rfl ?_)
    have hc := rOf_c A1 c1 (b.take n) H1 (Own.rd o1).2 (by omega)
    refine hc.mono ?_
    rintro v Hz ⟨rfl, e⟩
    obtain rfl := e.symm
    clear e hc
    refine ⟨Ext.refl _, fun _ => ?_⟩
    -- e slot 17: call F54<farandole/farandoleref02.Eight> t16
    refine lexX0 rfl rfl rfl rfl rfl (by simp) (fun hM17 => stepCall rfl Try.call54 rfl ?_)
    refine (rEight_c (hash (b.take n)) (hash_lt _) H1).mono ?_
    rintro v H2 ⟨o2, x2⟩
    refine ⟨x2, fun _ => ?_⟩
    obtain ⟨A2, c2, rfl, -⟩ := o2.form
    refine lexY0 rfl rfl rfl rfl rfl (by simp) (fun hM => (yBytesStr rfl Try.underlying28 Try.underlying9 Try.underlying5 rfl rfl (Own.rd o2).2)) ?_
    refine lexQ rfl rfl rfl rfl (fun H hM => (yMove (v := .slice _ _ _) rfl rfl)) ?_
    refine lexQ rfl rfl rfl rfl (fun H hM => (yMove (v := .slice _ _ _) rfl rfl)) ?_
    refine lexQ rfl rfl rfl rfl (fun H hM => (yLen rfl Try.underlying28 rfl)) ?_
    refine lexQ rfl rfl rfl rfl (fun H hM => (ySub rfl rfl rfl (by unfold In64; omega))) ?_
    refine lexQ rfl rfl rfl rfl (fun H hM => (ySliceL rfl Try.underlying28 Try.sizeOf5 rfl rfl hz (by omega))) ?_
    refine lexQ rfl rfl rfl rfl (fun H hM => (yBytesStr rfl Try.underlying28 Try.underlying9 Try.underlying5 rfl List.length_drop.symm ((hdr.ext x1).ext hM.ext))) ?_
    -- tail
    refine lexNil0 rfl (fun hM => ?_)
    refine seqQ rfl rfl (yNeqS rfl rfl rfl) ?_
    refine seqNil ?_
    refine hF7 _ _ ?_; clear hF7
    -- if t25
    refine wpCond rfl (fun hne => ?_) (fun hne => ?_)
    · skip
      have hne : ¬ by8 (hash (b.take n)) = b.drop n := by simpa [bytesEq2] using hne
      refine wpSeq fun F8 hF8 => ?_
      refine wpRegion ?_
      refine seqQ rfl rfl (yAssign (v := .slice _ _ _) rfl rfl) ?_
      refine seqQ rfl rfl (yAssign (v := .int _ _) rfl rfl) ?_
      refine seqNil ?_
      refine hF8 _ _ ?_; clear hF8
      -- ret
      refine wpRet (fin2 (v := .slice _ _ _) (v' := .int _ _) rfl rfl rfl ?_)
      rw [opened_bad (by omega) (by rw [← hn]; exact hne)]
      exact ⟨none, 0, rfl, Own.nil _ _, x1.trans x2⟩
    · skip
      have he : by8 (hash (b.take n)) = b.drop n := by simpa [bytesEq2] using hne
      refine wpSkip ?_
      refine hF6 _ _ ?_; clear hF6
      refine wpSeq fun F9 hF9 => ?_
      refine wpRegion ?_
      refine seqQ rfl rfl (yMove (v := .slice _ _ _) rfl rfl) ?_
      refine seqQ rfl rfl (yAssign (v := .slice _ _ _) rfl rfl) ?_
      refine seqQ rfl rfl (yAssign (v := .int _ _) rfl rfl) ?_
      refine seqNil ?_
      refine hF9 _ _ ?_; clear hF9
      -- ret
      refine wpRet (fin2 (v := .slice _ _ _) (v' := .int _ _) rfl rfl rfl ?_)
      rw [opened_ok (by omega) (by rw [← hn]; exact he), ← hn]
      exact ⟨A1, c1, rfl, o1.ext x2, x1.trans x2⟩
set_option maxRecDepth 100000 in
theorem hdr7_stepR {D : List UInt8} {k : Nat} {hs : List Int} {k' : Nat} {f : Bool} {g : Nat} {B : Option Addr} {cB : Nat} {H H' : Heap} {v : Value} (h : Hdr7 D k hs k' f) (hp : RE rdI (Value.int .i64) P64 g B cB D k' f H v H') :
    Keep [g] H H' ∧ ∃ a k2 f2, v = .int .i64 a ∧ RRd H' g B cB D k2 f2 ∧ Hdr7 D (k + 1) (hs ++ [a]) k2 f2 := by
  obtain ⟨hK, a, f2, k2, rfl, hr, -, ⟨rfl, h1⟩ | ⟨rfl, h1⟩⟩ := hp
  · refine ⟨hK, a, k2, true, rfl, hr, .inr ⟨rfl, ?_⟩⟩
    rw [pN_snoc]
    rcases h with ⟨rfl, h⟩ | ⟨-, h⟩
    · rw [prs_f] at h1
      rw [h]
      simp [h1]
    · rw [h]
      rfl
  · obtain ⟨rfl, h1r⟩ := prs_ff h1
    clear h1
    refine ⟨hK, a, k2, false, rfl, hr, .inl ⟨rfl, ?_⟩⟩
    rcases h with ⟨-, h⟩ | ⟨h, -⟩
    · rw [pN_snoc, h]
      simp [h1r]
    · cases h
set_option maxRecDepth 100000 in
theorem rDecode_c (A : Option Addr) (ca : Nat) (b : List UInt8) (H : Heap) (hA : Rd eByte H A b) (hca : b.length ≤ ca) (hl : b.length ≤ 1000000) :
    CallsH Try.prog 20 [.slice A b.length ca] H fun v H' => ∃ B cb C cc, v = .tuple #[.agg (pkC (decP b).2 B cb C cc).toArray, .int .i64 (decP b).1] ∧ Own eVal 52 H' H.size (.slice B (decP b).2.vals.length cb) (decP b).2.vals ∧ Own eInt 3 H' H.size (.slice C (decP b).2.clk.length cc) (decP b).2.clk ∧ Ext H H' := by
  refine callsH_of Try.func20 rfl Try.ntmps20 (Nat.le_of_ble_eq_true rfl) ?_
  refine wpSeq fun F1 hF1 => ?_
  refine wpRegion ?_
  refine seqN rfl rfl (nAlloc rfl Try.zeroValue25 rfl) (fun g2 H2 hx2 hB2 hg2 hl2 => ?_)
  refine seqQ rfl rfl (yAssign (v := .int _ _) rfl rfl) ?_
  refine seqNil ?_
  refine hF1 _ _ ?_; clear hF1
  refine wpSeq fun F2 hF2 => ?_
  refine wpRegion ?_
  refine seqQ rfl rfl (yMove (v := .slice _ _ _) rfl rfl) ?_
  -- e slot 10: call F45<farandole/farandoleref02.Open> t9
  refine seqE rfl rfl (stepCall rfl Try.call45 rfl ?_)
  refine (rOpen_c A ca b H2 (hA.ext hx2) hca (by omega)).mono ?_
  rintro v H3 ⟨B0, c0, rfl, o3, x3⟩
  refine seqQ rfl rfl (yMove (v := .tuple _) rfl rfl) ?_
  refine seqQ rfl rfl (yExtract (v := .slice _ _ _) rfl rfl rfl) ?_
  refine seqQ rfl rfl (yExtract (v := .int _ _) rfl rfl rfl) ?_
  refine seqQ rfl rfl (yAssign (v := .slice _ _ _) rfl rfl) ?_
  refine seqQ rfl rfl (yAssign (v := .int _ _) rfl rfl) ?_
  refine seqNil ?_
  refine hF2 _ _ ?_; clear hF2
  refine wpSeq fun F3 hF3 => ?_
  refine wpSeq fun F4 hF4 => ?_
  refine wpRegion ?_
  refine seqQ rfl rfl (yMove (v := .int _ _) rfl rfl) ?_
  refine seqQ rfl rfl (yNeq rfl rfl rfl) ?_
  refine seqNil ?_
  refine hF4 _ _ ?_; clear hF4
  -- if t14
  have hB23 := hB2.ext x3
  have hE := hx2.trans x3
  have s2 := hx2.size
  have s3 := x3.size
  refine wpCond rfl (fun he => ?_) (fun he => ?_)
  · skip
    have he : (opened b).1 ≠ 0 := by simpa using he
    refine wpSeq fun F5 hF5 => ?_
    refine wpRegion ?_
    refine seqQ rfl rfl (yBuild (pl := [(0, 1), (1, 1), (2, 1), (3, 1), (4, 1), (5, 1), (6, 1), (7, 1), (8, 1)]) (vs := []) rfl Try.underlying25 Try.zeroValue25 rfl (by unfold Places; kernel_rfl) rfl rfl) ?_
    refine seqQ rfl rfl (yMove (v := .int _ _) rfl rfl) ?_
    -- e slot None: store T25 t2 t15
    refine seqE0 rfl rfl (stepStoreB rfl (by kernel_rfl) rfl rfl rfl hB23 rfl ?_)
    intro H4 hB4 hK4
    refine seqQ rfl rfl (yAssign (v := .int _ _) rfl rfl) ?_
    refine seqNil ?_
    refine hF5 _ _ ?_; clear hF5
    -- ret
    refine wpRet (finR2 rfl (resC Try.underlying25 rfl (by kernel_rfl) rfl hB4) (resT (v := .int _ _) rfl) ?_)
    have e : decP b = ((opened b).1, pk0) := if_pos he
    rw [e]
    exact ⟨none, 0, none, 0, rfl, Own.nil _ _, Own.nil _ _, hE.mine hK4 (by simp; omega)⟩
  · skip
    have he : ¬ (opened b).1 ≠ 0 := by simpa using he
    have e : decP b = (match parse (opened b).2 with | some p => if ValidP p then (0, p) else (4, pk0) | none => (4, pk0)) := if_neg he
    have hpl : (opened b).2.length ≤ 1000000 := by
      unfold opened
      split
      · simp
      · split
        · simp
          omega
        · simp
    obtain ⟨D, hD⟩ : ∃ D, D = (opened b).2 := ⟨_, rfl⟩
    rw [← hD] at o3 e hpl
    rw [← hD]
    refine wpSkip ?_
    refine hF3 _ _ ?_; clear hF3
    refine wpSeq fun F6 hF6 => ?_
    refine wpRegion ?_
    refine seqQ rfl rfl (yMove (v := .slice _ _ _) rfl rfl) ?_
    refine seqQ rfl rfl (yBuild (pl := [(0, 1), (1, 1), (2, 1)]) (vs := [(0, .slice _ _ _)]) rfl Try.underlying75 Try.zeroValue75 rfl (by unfold Places; kernel_rfl) rfl rfl) ?_
    refine seqN rfl rfl (nBoxA rfl rfl) (fun g19 H19 hx19 hB19 hg19 hl19 => ?_)
    refine seqQ rfl rfl (yAssign (v := .pointer _) rfl rfl) ?_
    refine seqNil ?_
    refine hF6 _ _ ?_; clear hF6
    refine wpSeq fun F7 hF7 => ?_
    refine wpRegion ?_
    refine seqQ rfl rfl (yMove (v := .pointer _) rfl rfl) ?_
    -- e slot 21: call F46<(*farandole/farandoleref01.Reader).Int> t20
    have q0 : RRd H19 g19 B0 c0 D 0 false := by
      obtain ⟨A', c', e3, hc3, hr3, -⟩ := o3.form
      injection e3 with e31 e32 e33
      subst e31
      subst e33
      exact ⟨hB19, RdM.old hr3 hx19 (by simp; omega), Nat.zero_le _, hc3, hpl⟩
    have hh0 : Hdr7 D 0 [] 0 false := .inl ⟨rfl, rfl⟩
    have z0 := hx19.size
    have l0 := q0.lt
    have hE0 := hE.trans hx19
    have h20 := hB23.ext hx19
    clear hE hB23 o3 hx19 hB19 hB2
    refine seqE rfl rfl (stepCall rfl Try.call46 rfl ?_)
    refine (rInt01_c g19 B0 c0 D 0 false H19 q0).mono ?_
    rintro v I1 hpp
    obtain ⟨hI1, a1, k1, f1, rfl, q1, hh1⟩ := hdr7_stepR hh0 hpp.int
    clear hpp
    have z1 := hI1.size
    refine seqQ rfl rfl (yMove (v := .pointer _) rfl rfl) ?_
    -- e slot 23: call F46<(*farandole/farandoleref01.Reader).Int> t22
    refine seqE rfl rfl (stepCall rfl Try.call46 rfl ?_)
    refine (rInt01_c g19 B0 c0 D k1 f1 I1 q1).mono ?_
    rintro v I2 hpp
    obtain ⟨hI2, a2, k2, f2, rfl, q2, hh2⟩ := hdr7_stepR hh1 hpp.int
    clear hpp
    have z2 := hI2.size
    refine seqQ rfl rfl (yMove (v := .pointer _) rfl rfl) ?_
    -- e slot 25: call F46<(*farandole/farandoleref01.Reader).Int> t24
    refine seqE rfl rfl (stepCall rfl Try.call46 rfl ?_)
    refine (rInt01_c g19 B0 c0 D k2 f2 I2 q2).mono ?_
    rintro v I3 hpp
    obtain ⟨hI3, a3, k3, f3, rfl, q3, hh3⟩ := hdr7_stepR hh2 hpp.int
    clear hpp
    have z3 := hI3.size
    refine seqQ rfl rfl (yMove (v := .pointer _) rfl rfl) ?_
    -- e slot 27: call F46<(*farandole/farandoleref01.Reader).Int> t26
    refine seqE rfl rfl (stepCall rfl Try.call46 rfl ?_)
    refine (rInt01_c g19 B0 c0 D k3 f3 I3 q3).mono ?_
    rintro v I4 hpp
    obtain ⟨hI4, a4, k4, f4, rfl, q4, hh4⟩ := hdr7_stepR hh3 hpp.int
    clear hpp
    have z4 := hI4.size
    refine seqQ rfl rfl (yMove (v := .pointer _) rfl rfl) ?_
    -- e slot 29: call F46<(*farandole/farandoleref01.Reader).Int> t28
    refine seqE rfl rfl (stepCall rfl Try.call46 rfl ?_)
    refine (rInt01_c g19 B0 c0 D k4 f4 I4 q4).mono ?_
    rintro v I5 hpp
    obtain ⟨hI5, a5, k5, f5, rfl, q5, hh5⟩ := hdr7_stepR hh4 hpp.int
    clear hpp
    have z5 := hI5.size
    refine seqQ rfl rfl (yMove (v := .pointer _) rfl rfl) ?_
    -- e slot 31: call F46<(*farandole/farandoleref01.Reader).Int> t30
    refine seqE rfl rfl (stepCall rfl Try.call46 rfl ?_)
    refine (rInt01_c g19 B0 c0 D k5 f5 I5 q5).mono ?_
    rintro v I6 hpp
    obtain ⟨hI6, a6, k6, f6, rfl, q6, hh6⟩ := hdr7_stepR hh5 hpp.int
    clear hpp
    have z6 := hI6.size
    refine seqQ rfl rfl (yMove (v := .pointer _) rfl rfl) ?_
    -- e slot 33: call F46<(*farandole/farandoleref01.Reader).Int> t32
    refine seqE rfl rfl (stepCall rfl Try.call46 rfl ?_)
    refine (rInt01_c g19 B0 c0 D k6 f6 I6 q6).mono ?_
    rintro v I7 hpp
    obtain ⟨hI7, a7, k7, f7, rfl, q7, hh7⟩ := hdr7_stepR hh6 hpp.int
    clear hpp
    have z7 := hI7.size
    refine seqQ rfl rfl (yBuild (pl := [(0, 1), (1, 1), (2, 1), (3, 1), (4, 1), (5, 1), (6, 1), (7, 1), (8, 1)]) (vs := [(0, .int _ _), (1, .int _ _), (2, .int _ _), (3, .int _ _), (4, .int _ _), (5, .int _ _), (6, .int _ _)]) (cs := [.int .i64 a1, .int .i64 a2, .int .i64 a3, .int .i64 a4, .int .i64 a5, .int .i64 a6, .int .i64 a7, .slice none 0 0, .slice none 0 0]) rfl Try.underlying25 Try.zeroValue25 rfl (by unfold Places; kernel_rfl) rfl rfl) ?_
    refine seqN rfl rfl (nAlloc rfl Try.zeroValue25 rfl) (fun g7 H7 hx7 hB7 hg7 hl7 => ?_)
    -- e slot None: store T25 t7 t34
    have hK7 : Keep [g19] H19 I7 := (((((hI1.trans hI2).trans hI3).trans hI4).trans hI5).trans hI6).trans hI7
    have hE7 := hE0.mine hK7 (by simp; omega)
    have h27 := h20.keep hK7 (by simp; omega)
    have z27 := h20.lt
    clear hI1 hI2 hI3 hI4 hI5 hI6 hI7 hh0 hh1 hh2 hh3 hh4 hh5 hh6 q1 q2 q3 q4 q5 q6 hE0 h20
    refine seqE0 rfl rfl (stepStoreB rfl (by kernel_rfl) rfl rfl rfl hB7 rfl ?_)
    intro I8 h78 hK8
    have z8 := hK8.size
    have z78 := hx7.size
    have lg := q7.lt
    have q8 : RRd I8 g19 B0 c0 D k7 f7 := (q7.ext hx7).new q0 hK8 (by omega)
    have hE8 := (hE7.trans hx7).mine hK8 (by simp; omega)
    have h28 := (h27.ext hx7).keep hK8 (by simp; omega)
    clear hK8 hx7 hE7 h27 hB7 q7
    refine seqNil ?_
    refine hF7 _ _ ?_; clear hF7
    refine wpSeq fun F8 hF8 => ?_
    refine wpRegion ?_
    refine seqQ rfl rfl (yMove (v := .pointer _) rfl rfl) ?_
    -- e slot 36: call F47<(*farandole/farandoleref01.Reader).Values> t35 [i:i64:4]
    refine seqE rfl rfl (stepCall rfl Try.call47 rfl ?_)
    refine (rVals01_c g19 B0 c0 D k7 f7 4 I8 q8 (by decide)).mono ?_
    rintro v I9 ⟨hK9, vs, Av, cv, f9, k9, rfl, q9, ov, d9⟩
    have z9 := hK9.size
    have h79 := h78.keep hK9 (by simp; omega)
    have h29 := h28.keep hK9 (by simp; omega)
    have hE9 := hE8.mine hK9 (by simp; omega)
    clear hK9 h78 h28 hE8 q8
    refine seqQ rfl rfl (yFieldAddr rfl Try.underlying25 rfl Try.sizeOf22 rfl rfl) ?_
    -- e slot None: store T22 t37 t36
    refine seqE0 rfl rfl (stepStore rfl Try.sizeOf22 rfl rfl rfl rfl h79 (Nat.le_of_ble_eq_true rfl) ?_)
    intro Ia h7a hKa
    have za := hKa.size
    have qa := q9.new q0 hKa (by omega)
    have h2a := h29.keep hKa (by simp; omega)
    have hEa := hE9.mine hKa (by simp; omega)
    have ova := ov.keep hKa (fun b hb => by have := (ov.lt b hb).1; simp; omega)
    clear hKa h79 h29 hE9 q9 ov
    refine seqNil ?_
    refine hF8 _ _ ?_; clear hF8
    refine wpSeq fun F9 hF9 => ?_
    refine wpRegion ?_
    refine seqQ rfl rfl (yMove (v := .pointer _) rfl rfl) ?_
    -- e slot 39: call F48<(*farandole/farandoleref01.Reader).Ints> t38 [i:i64:6]
    refine seqE rfl rfl (stepCall rfl Try.call48 rfl ?_)
    refine (rInts01_c g19 B0 c0 D k9 f9 6 Ia qa (by decide)).mono ?_
    rintro v Ib ⟨hKb, cs, Ac, cc, fb, kb, rfl, qb, oc, db⟩
    have zb := hKb.size
    have h7b := h7a.keep hKb (by simp; omega)
    have h2b := h2a.keep hKb (by simp; omega)
    have hEb := hEa.mine hKb (by simp; omega)
    have ovb := ova.keep hKb (fun b hb => by have := (ova.lt b hb).1; simp; omega)
    clear hKb h7a h2a hEa qa ova
    refine seqQ rfl rfl (yFieldAddr rfl Try.underlying25 rfl Try.sizeOf23 rfl rfl) ?_
    -- e slot None: store T23 t40 t39
    refine seqE0 rfl rfl (stepStore rfl Try.sizeOf23 rfl rfl rfl rfl h7b (Nat.le_of_ble_eq_true rfl) ?_)
    intro Ic h7c hKc
    have zc := hKc.size
    have qc := qb.new q0 hKc (by omega)
    have h2c := h2b.keep hKc (by simp; omega)
    have hEc := hEb.mine hKc (by simp; omega)
    have ovc := ovb.keep hKc (fun b hb => by have := (ovb.lt b hb).1; simp; omega)
    have occ := oc.keep hKc (fun b hb => by have := (oc.lt b hb).1; simp; omega)
    clear hKc h7b h2b hEb qb ovb oc
    have hpq := parse_eq (show Hdr7 D 7 [a1, a2, a3, a4, a5, a6, a7] k7 f7 from hh7) (by rcases d9 with ⟨x, y⟩ | ⟨x, y, -⟩; exact .inr ⟨x, y⟩; exact .inl ⟨x, y⟩) (by rcases db with ⟨x, y⟩ | ⟨x, y, -⟩; exact .inr ⟨x, y⟩; exact .inl ⟨x, y⟩)
    have hP7 : Blk Ic g7 (pkC (mkPk [a1, a2, a3, a4, a5, a6, a7] vs cs) Av cv Ac cc) 25 := by
      show Blk Ic g7 [.int .i64 a1, .int .i64 a2, .int .i64 a3, .int .i64 a4, .int .i64 a5, .int .i64 a6, .int .i64 a7, .slice Av (vs.map fromV).length cv, .slice Ac cs.length cc] _
      rw [List.length_map]
      exact h7c
    have ov : Own eVal 52 Ic I8.size (.slice Av (vs.map fromV).length cv) (vs.map fromV) := by
      rw [List.length_map]
      exact ownV ovc
    have oc : Own eInt 3 Ic Ia.size (.slice Ac cs.length cc) cs := occ
    clear ovc occ h7c d9 db hh7
    generalize hP : mkPk [a1, a2, a3, a4, a5, a6, a7] vs cs = P at hpq hP7
    have hle := qc.le
    refine seqNil ?_
    refine hF9 _ _ ?_; clear hF9
    refine wpSeq fun F10 hF10 => ?_
    refine wpSeq fun F11 hF11 => ?_
    refine wpRegion ?_
    refine seqQ rfl rfl (yMove (v := .pointer _) rfl rfl) ?_
    -- e slot 42: call F49<(*farandole/farandoleref01.Reader).End> t41
    refine seqE rfl rfl (stepCall rfl Try.call49 rfl ?_)
    refine (rEnd01_c g19 B0 c0 D kb fb Ic qc).mono ?_
    rintro v Hz ⟨rfl, ez⟩
    obtain rfl := ez.symm
    clear ez
    by_cases hc : fb = true ∨ kb ≠ D.length
    · skip
      rw [if_pos hc]
      rw [if_pos (by rcases hc with h | h; exact .inl h; exact .inr (by omega))] at hpq
      rw [hpq] at e
      dsimp only at e
      refine seqQ rfl rfl (yNeq rfl rfl rfl) ?_
      refine seqQ rfl rfl (yMove (v := .bool true) rfl rfl) ?_
      refine seqU rfl rfl ?_
      refine seqU rfl rfl ?_
      refine seqU rfl rfl ?_
      refine seqQ rfl rfl (yPickT (v := .bool _) rfl rfl rfl) ?_
      refine seqNil ?_
      refine hF11 _ _ ?_; clear hF11
      -- if t48
      refine wpT rfl ?_
      refine wpSeq fun F12 hF12 => ?_
      refine wpRegion ?_
      refine seqQ rfl rfl (yBuild (pl := [(0, 1), (1, 1), (2, 1), (3, 1), (4, 1), (5, 1), (6, 1), (7, 1), (8, 1)]) (vs := []) rfl Try.underlying25 Try.zeroValue25 rfl (by unfold Places; kernel_rfl) rfl rfl) ?_
      -- e slot None: store T25 t2 t49
      refine seqE0 rfl rfl (stepStoreB rfl (by kernel_rfl) rfl rfl rfl h2c rfl ?_)
      intro Ha hBa hKa
      refine seqQ rfl rfl (yAssign (v := .int _ _) rfl rfl) ?_
      refine seqNil ?_
      refine hF12 _ _ ?_; clear hF12
      -- ret
      refine wpRet (finR2 rfl (resC Try.underlying25 rfl (by kernel_rfl) rfl hBa) (resT (v := .int _ _) rfl) ?_)
      rw [e]
      exact ⟨none, 0, none, 0, rfl, Own.nil _ _, Own.nil _ _, hEc.mine hKa (by simp; omega)⟩
    · skip
      rw [if_neg hc]
      rw [if_neg (by intro h; apply hc; rcases h with h | h; exact .inl h; exact .inr (by omega))] at hpq
      rw [hpq] at e
      dsimp only at e
      refine seqQ rfl rfl (yNeq rfl rfl rfl) ?_
      refine seqQ rfl rfl (yMove (v := .bool false) rfl rfl) ?_
      refine seqQ rfl rfl (yLoadB hP7 rfl Try.underlying25 rfl Try.sizeOf25 rfl) ?_
      -- e slot 46: call F17<farandole/farandoleref46.Valid> t45
      refine seqE rfl rfl (stepCall rfl Try.call17 rfl ?_)
      have hPv : P.vals = vs.map fromV := by rw [← hP]; rfl
      have hPc : P.clk = cs := by rw [← hP]; rfl
      rw [← hPv] at ov
      rw [← hPc] at oc
      refine (rValid_c P Av Ac cv cc Ic (Own.rd ov).2 (Own.rd oc).2).mono ?_
      rintro v Ha ⟨rfl, xa⟩
      have sa := xa.size
      refine seqQ rfl rfl (yNot rfl rfl) ?_
      refine seqQ rfl rfl (yPickF (v := .bool _) rfl rfl rfl) ?_
      refine seqNil ?_
      refine hF11 _ _ ?_; clear hF11
      -- if t48
      refine wpCond rfl (fun hv => ?_) (fun hv => ?_)
      · skip
        have hv : ¬ ValidP P := by simpa using hv
        rw [if_neg hv] at e
        refine wpSeq fun F13 hF13 => ?_
        refine wpRegion ?_
        refine seqQ rfl rfl (yBuild (pl := [(0, 1), (1, 1), (2, 1), (3, 1), (4, 1), (5, 1), (6, 1), (7, 1), (8, 1)]) (vs := []) rfl Try.underlying25 Try.zeroValue25 rfl (by unfold Places; kernel_rfl) rfl rfl) ?_
        -- e slot None: store T25 t2 t49
        refine seqE0 rfl rfl (stepStoreB rfl (by kernel_rfl) rfl rfl rfl (h2c.ext xa) rfl ?_)
        intro Hc hBc hKc
        refine seqQ rfl rfl (yAssign (v := .int _ _) rfl rfl) ?_
        refine seqNil ?_
        refine hF13 _ _ ?_; clear hF13
        -- ret
        refine wpRet (finR2 rfl (resC Try.underlying25 rfl (by kernel_rfl) rfl hBc) (resT (v := .int _ _) rfl) ?_)
        rw [e]
        exact ⟨none, 0, none, 0, rfl, Own.nil _ _, Own.nil _ _, (hEc.trans xa).mine hKc (by simp; omega)⟩
      · skip
        have hv : ValidP P := by simpa using hv
        rw [if_pos hv] at e
        refine wpSkip ?_
        refine hF10 _ _ ?_; clear hF10
        refine wpSeq fun F14 hF14 => ?_
        refine wpRegion ?_
        refine seqQ rfl rfl (yLoadB (hP7.ext xa) rfl Try.underlying25 rfl Try.sizeOf25 rfl) ?_
        -- e slot None: store T25 t2 t50
        refine seqE0 rfl rfl (stepStoreB rfl (by kernel_rfl) rfl rfl rfl (h2c.ext xa) rfl ?_)
        intro Hc hBc hKc
        have hEd := (hEc.trans xa).mine hKc (by simp; omega)
        refine seqQ rfl rfl (yAssign (v := .int _ _) rfl rfl) ?_
        refine seqNil ?_
        refine hF14 _ _ ?_; clear hF14
        -- ret
        refine wpRet (finR2 rfl (resC Try.underlying25 rfl (by kernel_rfl) rfl hBc) (resT (v := .int _ _) rfl) ?_)
        rw [e]
        exact ⟨Av, cv, Ac, cc, rfl, ((ov.ext xa).keep hKc (fun b hb => by have := (ov.lt b hb).1; simp; omega)).mono (by omega), ((oc.ext xa).keep hKc (fun b hb => by have := (oc.lt b hb).1; simp; omega)).mono (by omega), hEd⟩
end Go.Proofs.Ytohjmobnnjjekaa
