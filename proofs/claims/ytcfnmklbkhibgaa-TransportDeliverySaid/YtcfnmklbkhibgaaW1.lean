/- Package wire: the functions that append encodings. -/
import Derived.Test.YtcfnmklbkhibgaaP
import Derived.Test.YtcfnmklbkhibgaaLL
import Derived.Test.YtcfnmklbkhibgaaWBits
namespace Go.Proofs.Ytcfnmklbkhibgaa
open Go.RowKit

set_option maxRecDepth 100000 in
theorem shr63 (n : Int) : n.fdiv (2 ^ (63 : Int).toNat) = n / 9223372036854775808 := by
  rw [Int.fdiv_eq_ediv_of_nonneg _ (by decide)]
  rfl
set_option maxRecDepth 100000 in
theorem shr7 (u : Nat) : (u : Int).fdiv (2 ^ (7 : Int).toNat) = ((u / 128 : Nat) : Int) := by
  rw [Int.fdiv_eq_ediv_of_nonneg _ (by decide)]
  show (u : Int) / 128 = _
  omega
set_option maxRecDepth 100000 in
theorem orByte (u : Nat) : bits BinOp.or IntKind.u8 (IntKind.u8.wrap (u : Int)) 128 = ((UInt8.ofNat (u % 128 + 128)).toNat : Int) := by
  have h := u8_or_nat (u % 256) 128 (by omega) (by omega)
  rw [or_128 _ (by omega)] at h
  have e : IntKind.u8.wrap (u : Int) = ((u % 256 : Nat) : Int) := by rw [IntKind.wrap_u8]; omega
  rw [e]
  refine h.trans ?_
  simp <;> omega
set_option maxRecDepth 100000 in
theorem lowByte (u : Nat) : IntKind.u8.wrap (u : Int) = ((UInt8.ofNat u).toNat : Int) := by
  rw [IntKind.wrap_u8]
  simp <;> omega
set_option maxRecDepth 100000 in
theorem int_c (v : Value) (n : Int) (base : Nat) (l : List UInt8) (H : Heap) (hn : P64 n) (hb : base ≤ H.size) (hv : Own eByte 5 H base v l) (hl : l.length ≤ 500000000) :
    CallsH Try.prog 76 [v, .int .i64 n] H fun v' H' => Own eByte 5 H' base v' (l ++ encI n) ∧ Grew H v H' v' := by
  have hz := zig_bits hn
  have hlt := zig_lt hn.1 hn.2
  have hlen := encI_length hn
  obtain ⟨A0, c0, rfl, -⟩ := hv.form
  refine callsH_of Try.func76 rfl Try.ntmps76 (Nat.le_of_ble_eq_true rfl) ?_
  refine wpSeq fun F1 hF1 => ?_
  refine wpRegion ?_
  refine seqQ rfl rfl (yAssign (v := .slice _ _ _) rfl rfl) ?_
  refine seqNil ?_
  refine hF1 _ _ ?_; clear hF1
  refine wpSeq fun F2 hF2 => ?_
  refine wpRegion ?_
  refine seqQ rfl rfl (yMove (v := .int _ _) rfl rfl) ?_
  refine seqQ rfl rfl (yConv rfl Try.underlying3 Try.underlying131 rfl rfl) ?_
  refine seqQ rfl rfl (yShlE rfl rfl rfl (by decide) rfl) ?_
  refine seqQ rfl rfl (yMove (v := .int _ _) rfl rfl) ?_
  refine seqQ rfl rfl (yShrE rfl rfl rfl (by decide) (shr63 n)) ?_
  refine seqQ rfl rfl (yConv rfl Try.underlying3 Try.underlying131 rfl rfl) ?_
  refine seqQ rfl rfl (yXorE rfl rfl rfl hz) ?_
  refine seqQ rfl rfl (yAssign (v := .int _ _) rfl rfl) ?_
  refine seqNil ?_
  refine hF2 _ _ ?_; clear hF2
  refine wpSeq fun F3 hF3 => ?_
  -- loop
  generalize hzn : zig n = z at hlt
  refine wpBlock ?_
  refine wpLoopS [0, 5, 13, 14, 15, 16, 17, 18, 19, 20, 21, 22] (fun x : Nat × Value => [(0, x.2), (5, .int .u64 x.1)]) (fun x H' => x.1 < 18446744073709551616 ∧ ∃ pre, Own eByte 5 H' base x.2 (l ++ pre) ∧ Grew H (.slice A0 l.length c0) H' x.2 ∧ encI n = pre ++ encU x.1) (fun x => x.1) (z, .slice A0 l.length c0) ⟨rfl, rfl, trivial⟩ ⟨hlt, [], by simpa using hv, Grew.refl _ _, by rw [← hzn]; rfl⟩ ?_
  rintro ⟨u, v⟩ J H1 ⟨hu, pre, hown, hg, he⟩
  dsimp only at hu hown hg he
  obtain ⟨A, c, rfl, -⟩ := hown.form
  have hpl : pre.length ≤ 10 := by rw [he, List.length_append] at hlen; omega
  have hbs := hg.1.size
  refine wpSeq fun F4 hF4 => ?_
  refine wpSeq fun F5 hF5 => ?_
  refine wpRegion ?_
  refine seqQ rfl rfl (yMove (v := .int _ _) rfl rfl) ?_
  refine seqQ rfl rfl (yGeq rfl rfl rfl) ?_
  refine seqNil ?_
  refine hF5 _ _ ?_; clear hF5
  -- if t14
  refine wpIf rfl (fun hlt => ?_) (fun hlt => ?_)
  · skip
    have hlt : 128 ≤ u := by dsimp only at hlt; omega
    refine wpSkip ?_
    refine hF4 _ _ ?_; clear hF4
    refine wpBlock ?_
    refine wpSeq fun F6 hF6 => ?_
    refine wpRegion ?_
    refine seqQ rfl rfl (yMove (v := .slice _ _ _) rfl rfl) ?_
    refine seqQ rfl rfl (yMove (v := .int _ _) rfl rfl) ?_
    refine seqQ rfl rfl (yConv rfl Try.underlying131 Try.underlying5 rfl rfl) ?_
    refine seqQ rfl rfl (yOrE rfl rfl rfl (orByte u)) ?_
    refine seqN rfl rfl (nBuildSlice (vs := [.int _ _]) rfl Try.underlying58 Try.sizeOf5 Try.zeroValue5 rfl rfl rfl rfl) (fun g19 H19 hx19 hB19 hg19 hl19 => ?_)
    -- e slot 20: builtin append t15 t19 : [58, 58]
    refine seqE rfl rfl (stepApp (c := eByte) (hown.ext hx19) rfl Try.underlying58 elem_eByte rfl (by omega) rfl rfl rfl (Blk.rd (c := eByte) (l := [UInt8.ofNat (u % 128 + 128)]) hB19) (by simp; omega) (by have := hx19.size; omega) ?_)
    intro v' H2 hown2 hg2
    obtain ⟨A2, c2, rfl, -⟩ := hown2.form
    refine seqQ rfl rfl (yAssign (v := .slice _ _ _) rfl rfl) ?_
    refine seqNil ?_
    refine hF6 _ _ ?_; clear hF6
    refine wpRegion ?_
    refine seqQ rfl rfl (yMove (v := .int _ _) rfl rfl) ?_
    refine seqQ rfl rfl (yShrE rfl rfl rfl (by decide) (shr7 u)) ?_
    refine seqQ rfl rfl (yAssign (v := .int _ _) rfl rfl) ?_
    refine seqNil ?_
    -- end loop
    refine loopEnd (u / 128, _) (by repeat (first | (with_reducible exact Agree.refl _ _) | refine Agree.upd ?_ rfl | refine Agree.over ?_ rfl)) (by dsimp only; omega) ⟨rfl, rfl, trivial⟩ ⟨by dsimp only; omega, pre ++ [UInt8.ofNat (u % 128 + 128)], by rw [← List.append_assoc]; exact hown2, hg.trans ((Grew.of_ext hx19 _).trans hg2), ?_⟩
    rw [he, encU_big hlt]
    simp
  · skip
    have hlt : u < 128 := by dsimp only at hlt; omega
    refine wpExit ?_
    refine hF3 _ _ ?_; clear hF3
    refine wpSeq fun F7 hF7 => ?_
    refine wpRegion ?_
    refine seqQ rfl rfl (yMove (v := .slice _ _ _) rfl rfl) ?_
    refine seqQ rfl rfl (yMove (v := .int _ _) rfl rfl) ?_
    refine seqQ rfl rfl (yConv rfl Try.underlying131 Try.underlying5 rfl (lowByte u)) ?_
    refine seqN rfl rfl (nBuildSlice (vs := [.int _ _]) rfl Try.underlying58 Try.sizeOf5 Try.zeroValue5 rfl rfl rfl rfl) (fun g26 H26 hx26 hB26 hg26 hl26 => ?_)
    -- e slot 27: builtin append t23 t26 : [58, 58]
    refine seqE rfl rfl (stepApp (c := eByte) (hown.ext hx26) rfl Try.underlying58 elem_eByte rfl (by omega) rfl rfl rfl (Blk.rd (c := eByte) (l := [UInt8.ofNat u]) hB26) (by simp; omega) (by have := hx26.size; omega) ?_)
    intro v' H2 hown2 hg2
    obtain ⟨A2, c2, rfl, -⟩ := hown2.form
    refine seqQ rfl rfl (yAssign (v := .slice _ _ _) rfl rfl) ?_
    refine seqNil ?_
    refine hF7 _ _ ?_; clear hF7
    -- ret
    refine wpRet (fin1 (v := .slice _ _ _) rfl rfl ?_)
    rw [he, encU_small hlt, ← List.append_assoc]
    exact ⟨hown2, hg.trans ((Grew.of_ext hx26 _).trans hg2)⟩

set_option maxRecDepth 100000 in
theorem P64_len {n : Nat} (h : n ≤ 1000000) : P64 (n : Int) := ⟨by omega, by omega⟩
set_option maxRecDepth 100000 in
theorem text_c (v : Value) (s : ByteArray) (base : Nat) (l : List UInt8) (H : Heap) (hb : base ≤ H.size) (hv : Own eByte 5 H base v l) (hl : l.length ≤ 400000000) (hs : s.size ≤ 1000000) :
    CallsH Try.prog 106 [v, .string s] H fun v' H' => Own eByte 5 H' base v' (l ++ encBytes s.data.toList) ∧ Grew H v H' v' := by
  obtain ⟨A0, c0, rfl, -⟩ := hv.form
  refine callsH_of Try.func106 rfl Try.ntmps106 (Nat.le_of_ble_eq_true rfl) ?_
  refine wpSeq fun F1 hF1 => ?_
  refine wpRegion ?_
  refine seqQ rfl rfl (yAssign (v := .slice _ _ _) rfl rfl) ?_
  refine seqNil ?_
  refine hF1 _ _ ?_; clear hF1
  refine wpSeq fun F2 hF2 => ?_
  refine wpRegion ?_
  refine seqQ rfl rfl (yMove (v := .slice _ _ _) rfl rfl) ?_
  refine seqQ rfl rfl (yMove (v := .string _) rfl rfl) ?_
  refine seqQ rfl rfl (yLenS rfl Try.underlying9 rfl) ?_
  -- e slot 8: call F76<farandole/wire.Int> t5 t7
  refine seqE rfl rfl (stepCall rfl Try.call76 rfl ?_)
  refine (int_c _ s.size base l H (P64_len hs) hb hv (by omega)).mono ?_
  rintro v1 H1 ⟨ho1, hg1⟩
  obtain ⟨A1, c1, rfl, -⟩ := ho1.form
  have hle := encI_length (P64_len hs)
  refine seqQ rfl rfl (yMove (v := .string _) rfl rfl) ?_
  -- e slot 10: builtin append t8 t9 : [58, 9]
  refine seqE rfl rfl (stepAppS ho1 rfl Try.underlying58 Try.underlying9 elem_eByte rfl rfl (by rw [List.length_append]; omega) (by have := hg1.1.size; omega) ?_)
  intro v' H2 hown2 hg2
  obtain ⟨A2, c2, rfl, -⟩ := hown2.form
  refine seqQ rfl rfl (yAssign (v := .slice _ _ _) rfl rfl) ?_
  refine seqNil ?_
  refine hF2 _ _ ?_; clear hF2
  -- ret
  refine wpRet (fin1 (v := .slice _ _ _) rfl rfl ?_)
  refine ⟨?_, hg1.trans hg2⟩
  rw [show l ++ encBytes s.data.toList = l ++ encI s.size ++ s.data.toList from (List.append_assoc _ _ _).symm]
  exact hown2
set_option maxRecDepth 100000 in
theorem flat_take {α : Type} (f : α → List UInt8) {l : List α} {k : Nat} (h : k < l.length) : (l.take (k + 1)).flatMap f = (l.take k).flatMap f ++ f l[k] := by
  rw [List.take_succ_eq_append_getElem h, List.flatMap_append]
  simp
set_option maxRecDepth 100000 in
theorem flat_le {α : Type} (f : α → List UInt8) (m : Nat) : ∀ l : List α, (∀ x ∈ l, (f x).length ≤ m) → (l.flatMap f).length ≤ l.length * m
  | [], _ => by simp
  | x :: l, h => by
    have ih := flat_le f m l (fun y hy => h y (by simp [hy]))
    have h1 := h x (by simp)
    rw [List.flatMap_cons, List.length_append, List.length_cons, Nat.add_mul]
    omega
set_option maxRecDepth 100000 in
theorem ints_c (v : Value) (A : Option Addr) (ca : Nat) (x : List Int) (base : Nat) (l : List UInt8) (H : Heap) (hb : base ≤ H.size) (hv : Own eByte 5 H base v l) (hA : Rd eInt H A x) (hne : ∀ p, A = some p → x ≠ [] → p.block < base) (hx64 : ∀ y ∈ x, P64 y) (hl : l.length ≤ 300000000) (hs : x.length ≤ 1000000) :
    CallsH Try.prog 78 [v, .slice A x.length ca] H fun v' H' => Own eByte 5 H' base v' (l ++ encInts x) ∧ Grew H v H' v' := by
  obtain ⟨A0, c0, rfl, -⟩ := hv.form
  refine callsH_of Try.func78 rfl Try.ntmps78 (Nat.le_of_ble_eq_true rfl) ?_
  refine wpSeq fun F1 hF1 => ?_
  refine wpRegion ?_
  refine seqQ rfl rfl (yAssign (v := .slice _ _ _) rfl rfl) ?_
  refine seqNil ?_
  refine hF1 _ _ ?_; clear hF1
  refine wpSeq fun F2 hF2 => ?_
  refine wpRegion ?_
  refine seqQ rfl rfl (yMove (v := .slice _ _ _) rfl rfl) ?_
  refine seqQ rfl rfl (yMove (v := .slice _ _ _) rfl rfl) ?_
  refine seqQ rfl rfl (yLen rfl Try.underlying25 rfl) ?_
  -- e slot 10: call F76<farandole/wire.Int> t7 t9
  refine seqE rfl rfl (stepCall rfl Try.call76 rfl ?_)
  refine (int_c _ x.length base l H (P64_len hs) hb hv (by omega)).mono ?_
  rintro v1 H1 ⟨ho1, hg1⟩
  obtain ⟨A1, c1, rfl, -⟩ := ho1.form
  have hle := encI_length (P64_len hs)
  refine seqQ rfl rfl (yAssign (v := .slice _ _ _) rfl rfl) ?_
  refine seqNil ?_
  refine hF2 _ _ ?_; clear hF2
  refine wpSeq fun F3 hF3 => ?_
  refine wpSeq fun F4 hF4 => ?_
  refine wpRegion ?_
  refine seqQ rfl rfl (yMove (v := .slice _ _ _) rfl rfl) ?_
  refine seqQ rfl rfl (yLen rfl Try.underlying25 rfl) ?_
  refine seqQ rfl rfl (yMove (v := .int _ _) rfl rfl) ?_
  refine seqNil ?_
  refine hF4 _ _ ?_; clear hF4
  -- loop
  refine wpBlock ?_
  refine wpLoopS [0, 6, 13, 14, 15, 16, 17, 18, 19, 20] (fun x : Nat × Value => [(13, .int .i64 x.1), (0, x.2)]) (fun z H' => z.1 ≤ x.length ∧ Own eByte 5 H' base z.2 (l ++ encI x.length ++ (x.take z.1).flatMap encI) ∧ Grew H (.slice A0 l.length c0) H' z.2) (fun z => x.length - z.1) (0, _) ⟨rfl, rfl, trivial⟩ ⟨Nat.zero_le _, by simpa using ho1, hg1⟩ ?_
  rintro ⟨k, v⟩ J Hk ⟨hk, ho, hg⟩
  dsimp only at hk ho hg
  obtain ⟨A2, c2, rfl, -⟩ := ho.form
  have hsz := hg.1.size
  refine wpSeq fun F5 hF5 => ?_
  refine wpRegion ?_
  refine seqQ rfl rfl (yLss rfl rfl rfl) ?_
  refine seqNil ?_
  refine hF5 _ _ ?_; clear hF5
  refine wpSeq fun F6 hF6 => ?_
  -- if t14
  refine wpIf rfl (fun hlt => ?_) (fun hlt => ?_)
  · skip
    have hk : k < x.length := by dsimp only at hlt; omega
    have rA := hA.keep hg.1 (fun p e hm => by rw [Option.mem_toList] at hm; have := (hv.lt _ hm).1; have := hne p e (List.ne_nil_of_length_pos (by omega)); omega)
    obtain ⟨p, rfl, hp⟩ := rA.at1 hk
    have hfl := flat_le encI 10 (x.take k) (fun y hy => encI_length (hx64 y (List.mem_of_mem_take hy)))
    rw [List.length_take] at hfl
    refine wpSkip ?_
    refine hF6 _ _ ?_; clear hF6
    refine wpSeq fun F7 hF7 => ?_
    refine wpBlock ?_
    refine wpSeq fun F8 hF8 => ?_
    refine wpRegion ?_
    refine seqQ rfl rfl (yIdx1 rfl Try.underlying25 Try.sizeOf3 rfl rfl rfl hk) ?_
    refine seqQ rfl rfl (yLoad rfl Try.underlying3 rfl rfl hp) ?_
    refine seqQ rfl rfl (yAssign (v := .int _ _) rfl rfl) ?_
    refine seqNil ?_
    refine hF8 _ _ ?_; clear hF8
    refine wpRegion ?_
    refine seqQ rfl rfl (yMove (v := .slice _ _ _) rfl rfl) ?_
    refine seqQ rfl rfl (yMove (v := .int _ _) rfl rfl) ?_
    -- e slot 19: call F76<farandole/wire.Int> t17 t18
    refine seqE rfl rfl (stepCall rfl Try.call76 rfl ?_)
    refine (int_c _ x[k] base _ Hk (hx64 _ (List.getElem_mem hk)) (by omega) ho (by rw [List.length_append, List.length_append]; omega)).mono ?_
    rintro v3 H3 ⟨ho3, hg3⟩
    obtain ⟨A3, c3, rfl, -⟩ := ho3.form
    refine seqQ rfl rfl (yAssign (v := .slice _ _ _) rfl rfl) ?_
    refine seqNil ?_
    refine hF7 _ _ ?_; clear hF7
    refine wpRegion ?_
    refine seqQ rfl rfl (yAdd rfl rfl rfl (by unfold In64; omega)) ?_
    refine seqQ rfl rfl (yMove (v := .int _ _) rfl rfl) ?_
    refine seqNil ?_
    -- end loop
    exact loopEnd (k + 1, _) (by repeat (first | (with_reducible exact Agree.refl _ _) | refine Agree.upd ?_ rfl | refine Agree.over ?_ rfl)) (by dsimp only; omega) ⟨rfl, rfl, trivial⟩ ⟨hk, by dsimp only; rw [flat_take encI hk, ← List.append_assoc]; exact ho3, hg.trans hg3⟩
  · skip
    have ek : k = x.length := by dsimp only at hlt; omega
    subst ek
    refine wpExit ?_
    refine hF3 _ _ ?_; clear hF3
    refine wpSeq fun F9 hF9 => ?_
    refine wpRegion ?_
    refine seqQ rfl rfl (yMove (v := .slice _ _ _) rfl rfl) ?_
    refine seqQ rfl rfl (yAssign (v := .slice _ _ _) rfl rfl) ?_
    refine seqNil ?_
    refine hF9 _ _ ?_; clear hF9
    -- ret
    refine wpRet (fin1 (v := .slice _ _ _) rfl rfl ?_)
    rw [show l ++ encInts x = l ++ encI x.length ++ (x.take x.length).flatMap encI from by rw [List.take_length, List.append_assoc]; rfl]
    exact ⟨ho, hg⟩
end Go.Proofs.Ytcfnmklbkhibgaa
