/- WireRoundTrip: integers, booleans, texts, byte strings and lists are read back, whatever follows. Conditions: none beyond the statement's. -/
import Derived.Test.YtnccbnjjnijbhaaW15
namespace Go.Proofs.Ytnccbnjjnijbhaa
open Go.ChangeShapes Go.WideShapes Go.ChangeAt Go.RowKit Go.Deep

set_option maxRecDepth 100000 in
theorem encNB_le {n : Int} (h : P64 n) : (encNB n).length ≤ 11 := by
  have := encI_length h
  unfold encNB encB
  rw [List.length_append, List.length_singleton]
  omega
set_option maxRecDepth 100000 in
theorem encBytes_le {x : List UInt8} (h : x.length ≤ 1000000) : (encBytes x).length ≤ 10 + x.length := by
  have := encI_length (P64_len h)
  unfold encBytes
  rw [List.length_append]
  omega
set_option maxRecDepth 100000 in
theorem encTT_le {s : ByteArray} (h : s.size ≤ 200) : (encTT s).length ≤ 420 := by
  have h1 : s.data.toList.length = s.size := rfl
  have := encBytes_le (x := s.data.toList) (by omega)
  unfold encTT
  rw [List.length_append]
  omega
set_option maxRecDepth 100000 in
theorem opn_ints (W : World) : Opn Try.prog W 38 1 (fun a : Option Addr × Nat × List Int => [.slice a.1 a.2.2.length a.2.1]) (fun a => Rd eInt W.heap a.1 a.2.2 ∧ (∀ x ∈ a.2.2, In64 x) ∧ a.2.2.length ≤ a.2.1 ∧ a.2.1 ≤ maxLen) := opn_slice (c := eInt) Try.underlying38 (by kernel_rfl) (opn_int Try.underlying3 (by kernel_rfl))
set_option maxRecDepth 100000 in
theorem opn_strs (W : World) : Opn Try.prog W 39 1 (fun a : Option Addr × Nat × List ByteArray => [.slice a.1 a.2.2.length a.2.1]) (fun a => Rd eStr W.heap a.1 a.2.2 ∧ (∀ x ∈ a.2.2, x.size ≤ maxLen) ∧ a.2.2.length ≤ a.2.1 ∧ a.2.1 ≤ maxLen) := opn_slice (c := eStr) Try.underlying39 (by kernel_rfl) (opn_str Try.underlying9 (by kernel_rfl))
set_option maxHeartbeats 8000000 in
set_option maxRecDepth 100000 in
theorem trip_walk (l : List Int) (ss : List ByteArray) (rs : List UInt8) (A B C : Option Addr) (ca cb cc : Nat) (H : Heap) (hA : Rd eInt H A l) (hB : Rd eStr H B ss) (hC : Rd eByte H C rs) (h64 : ∀ x ∈ l, P64 x) (hlen : ss.length ≤ 9223372036854775807) :
    CallsH Try.prog 4 [.slice A l.length ca, .slice B ss.length cb, .slice C rs.length cc] H fun v H' => v = .bool true ∧ Ext H H' := by
  refine callsH_of Try.func4 rfl Try.ntmps4 (Nat.le_of_ble_eq_true rfl) ?_
  refine wpSeq fun F1 hF1 => ?_
  refine wpRegion ?_
  refine seqQ rfl rfl (yAssign (v := .bool _) rfl rfl) ?_
  refine seqNil ?_
  refine hF1 _ _ ?_; clear hF1
  refine wpSeq fun F2 hF2 => ?_
  refine wpSeq fun F3 hF3 => ?_
  refine wpRegion ?_
  -- e slot 13: call F8<farandole/farandolelaw01.awake> 
  refine seqE rfl rfl (stepCall rfl Try.call8 rfl ?_)
  refine (awake_c _).mono ?_
  rintro v H0 ⟨rfl, x0⟩
  refine seqQ rfl rfl (yNot rfl rfl) ?_
  refine seqNil ?_
  refine hF3 _ _ ?_; clear hF3
  -- if t14
  refine wpF rfl ?_
  refine wpSkip ?_
  refine hF2 _ _ ?_; clear hF2
  refine wpSeq fun F4 hF4 => ?_
  refine wpSeq fun F5 hF5 => ?_
  refine wpRegion ?_
  refine seqQ rfl rfl (yMove (v := .slice _ _ _) rfl rfl) ?_
  refine seqQ rfl rfl (yLen rfl Try.underlying38 rfl) ?_
  refine seqQ rfl rfl (yGtr rfl rfl rfl) ?_
  -- guard t18
  refine seqG rfl rfl rfl rfl (fun h1 => ?_) (fun h1 => ?_)
  · skip
    refine seqU rfl rfl ?_
    refine seqU rfl rfl ?_
    refine seqU rfl rfl ?_
    refine seqQ rfl rfl (yPickT (v := .bool _) rfl rfl rfl) ?_
    refine seqQ rfl rfl (yMove (v := .bool true) rfl rfl) ?_
    refine seqU rfl rfl ?_
    refine seqU rfl rfl ?_
    refine seqU rfl rfl ?_
    refine seqQ rfl rfl (yPickT (v := .bool _) rfl rfl rfl) ?_
    refine seqNil ?_
    refine hF5 _ _ ?_; clear hF5
    -- if t27
    refine wpT rfl ?_
    refine wpSeq fun F6 hF6 => ?_
    refine wpRegion ?_
    refine seqQ rfl rfl (yAssign (v := .bool _) rfl rfl) ?_
    refine seqNil ?_
    refine hF6 _ _ ?_; clear hF6
    -- ret
    refine wpRet (fin1 (v := .bool _) rfl rfl ?_)
    exact ⟨rfl, x0⟩
  · skip
    have hl : l.length ≤ 60 := by omega
    refine seqQ rfl rfl (yMove (v := .slice _ _ _) rfl rfl) ?_
    -- e slot 20: call F16<farandole/farandolelaw01.fewTexts> t19
    refine seqE rfl rfl (stepCall rfl Try.call16 rfl ?_)
    refine (fewTexts_c B cb ss H0 (hB.ext x0) hlen).mono ?_
    rintro v Hz ⟨rfl, e⟩
    obtain rfl := e.symm
    clear e
    refine seqQ rfl rfl (yNot rfl rfl) ?_
    refine seqQ rfl rfl (yPickF (v := .bool _) rfl rfl rfl) ?_
    -- guard t23
    refine seqGB rfl rfl rfl rfl (fun hf => ?_) (fun hf => ?_)
    · skip
      refine seqU rfl rfl ?_
      refine seqU rfl rfl ?_
      refine seqU rfl rfl ?_
      refine seqQ rfl rfl (yPickT (v := .bool _) rfl rfl rfl) ?_
      refine seqNil ?_
      refine hF5 _ _ ?_; clear hF5
      -- if t27
      refine wpT rfl ?_
      refine wpSeq fun F7 hF7 => ?_
      refine wpRegion ?_
      refine seqQ rfl rfl (yAssign (v := .bool _) rfl rfl) ?_
      refine seqNil ?_
      refine hF7 _ _ ?_; clear hF7
      -- ret
      refine wpRet (fin1 (v := .bool _) rfl rfl ?_)
      exact ⟨rfl, x0⟩
    · skip
      have hf : fewT ss := by simpa using hf
      obtain ⟨hf1, hf2⟩ := hf
      refine seqQ rfl rfl (yMove (v := .slice _ _ _) rfl rfl) ?_
      refine seqQ rfl rfl (yLen rfl Try.underlying29 rfl) ?_
      refine seqQ rfl rfl (yGtr rfl rfl rfl) ?_
      refine seqQ rfl rfl (yPickF (v := .bool _) rfl rfl rfl) ?_
      refine seqNil ?_
      refine hF5 _ _ ?_; clear hF5
      -- if t27
      refine wpIf rfl (fun h3 => ?_) (fun h3 => ?_)
      · skip
        refine wpSeq fun F8 hF8 => ?_
        refine wpRegion ?_
        refine seqQ rfl rfl (yAssign (v := .bool _) rfl rfl) ?_
        refine seqNil ?_
        refine hF8 _ _ ?_; clear hF8
        -- ret
        refine wpRet (fin1 (v := .bool _) rfl rfl ?_)
        exact ⟨rfl, x0⟩
      · skip
        have hr : rs.length ≤ 300 := by omega
        refine wpSkip ?_
        refine hF4 _ _ ?_; clear hF4
        refine wpSeq fun F9 hF9 => ?_
        refine wpRegion ?_
        refine seqQ rfl rfl (yMove (v := .slice _ _ _) rfl rfl) ?_
        -- e slot 29: call F17<farandole/wire.Ints> [nilslice:0:0] t28
        refine seqE rfl rfl (stepCall rfl Try.call17 rfl ?_)
        have hAl : ∀ p, A = some p → l ≠ [] → p.block < H0.size := fun p e hne => by
          obtain ⟨q, eq, hq⟩ := (hA.ext x0).lt (List.length_pos_iff.2 hne)
          rw [e] at eq
          obtain rfl := Option.some.inj eq
          exact hq
        have hBl : ∀ p, B = some p → ss ≠ [] → p.block < H0.size := fun p e hne => by
          obtain ⟨q, eq, hq⟩ := (hB.ext x0).lt (List.length_pos_iff.2 hne)
          rw [e] at eq
          obtain rfl := Option.some.inj eq
          exact hq
        refine (ints_c (.slice none 0 0) A ca l H0.size [] H0 (Nat.le_refl _) (Own.nil _ _) (hA.ext x0) (fun p e hne => hAl p e hne) h64 (by simp) (by omega)).mono ?_
        rintro v1 H1 ⟨o1, g1⟩
        have x1 : Ext H0 H1 := g1.ext (Ext.refl _) (by intro g e; cases e)
        rw [List.nil_append] at o1
        obtain ⟨A1, c1, rfl, -⟩ := o1.form
        have z1 : (encInts l).length ≤ 610 := by
          have h1 := encI_length (P64_len (show l.length ≤ 1000000 by omega))
          have h2 := flat_le encI 10 l (fun y hy => encI_length (h64 y hy))
          unfold encInts
          rw [List.length_append]
          omega
        refine seqQ rfl rfl (yAssign (v := .slice _ _ _) rfl rfl) ?_
        refine seqNil ?_
        refine hF9 _ _ ?_; clear hF9
        refine wpSeq fun F10 hF10 => ?_
        refine wpSeq fun F11 hF11 => ?_
        refine wpRegion ?_
        refine seqQ rfl rfl (yAssign (v := .int _ _) rfl rfl) ?_
        refine seqNil ?_
        refine hF11 _ _ ?_; clear hF11
        -- loop
        refine wpBlock ?_
        refine wpLoopS [7, 8, 30, 31, 32, 33, 34, 35, 36, 37, 38, 39, 40, 41, 42, 43, 44, 45, 46, 47, 48] (fun x : Nat × Value => [(8, .int .i64 x.1), (7, x.2)]) (fun z H' => z.1 ≤ l.length ∧ Own eByte 5 H' H0.size z.2 (encInts l ++ (l.take z.1).flatMap encNB) ∧ Ext H0 H') (fun z => l.length - z.1) (0, _) ⟨rfl, rfl, trivial⟩ ⟨Nat.zero_le _, by simpa using o1, x1⟩ ?_
        rintro ⟨k, v⟩ J Hk ⟨hk, ho, hg⟩
        dsimp only at hk ho hg
        have s0 := x0.size
        have sk := hg.size
        obtain ⟨A2, c2, rfl, -⟩ := ho.form
        refine wpSeq fun F12 hF12 => ?_
        refine wpSeq fun F13 hF13 => ?_
        refine wpRegion ?_
        refine seqQ rfl rfl (yMove (v := .int _ _) rfl rfl) ?_
        refine seqQ rfl rfl (yMove (v := .slice _ _ _) rfl rfl) ?_
        refine seqQ rfl rfl (yLen rfl Try.underlying38 rfl) ?_
        refine seqQ rfl rfl (yLss rfl rfl rfl) ?_
        refine seqNil ?_
        refine hF13 _ _ ?_; clear hF13
        -- if t33
        refine wpIf rfl (fun hlt => ?_) (fun hlt => ?_)
        · skip
          have hk : k < l.length := by dsimp only at hlt; omega
          have hkl := List.getElem_mem hk
          obtain ⟨p, rfl, hp⟩ := ((hA.ext x0).ext hg).at1 hk
          have hpl := hAl p rfl (List.ne_nil_of_length_pos (by omega))
          have hfl := flat_le encNB 11 (l.take k) (fun y hy => encNB_le (h64 y (List.mem_of_mem_take hy)))
          rw [List.length_take] at hfl
          have hnm : (p.add k).block ∉ (Value.slice A2 (encInts l ++ (l.take k).flatMap encNB).length c2).ownBlock.toList := by
            rw [Option.mem_toList, block_of_add]
            intro e
            have := (ho.lt _ e).1
            omega
          refine wpSkip ?_
          refine hF12 _ _ ?_; clear hF12
          refine wpSeq fun F14 hF14 => ?_
          refine wpBlock ?_
          refine wpRegionD Try_mixed [.q, .q, .q, .q, .q, .e, .q, .q, .q, .q, .q, .q, .e, .q] 12 [0, 0, 0, 6, 14, 31, 0, 0, 192, 448, 960, 1984, 4095, 8191] (Value.slice A2 (encInts l ++ (l.take k).flatMap encNB).length c2).ownBlock.toList (by kernel_rfl) _ rfl [0, 1, 2, 3, 4, 5, 6, 7, 8, 9, 10, 11] rfl (fun b hb => by rw [Option.mem_toList] at hb; exact (ho.lt b hb).2) ?_
          refine lexQ rfl rfl rfl rfl (fun H hM => (yMove (v := .slice _ _ _) rfl rfl)) ?_
          refine lexQ rfl rfl rfl rfl (fun H hM => (yMove (v := .slice _ _ _) rfl rfl)) ?_
          refine lexQ rfl rfl rfl rfl (fun H hM => (yMove (v := .int _ _) rfl rfl)) ?_
          refine lexQ rfl rfl rfl rfl (fun H hM => (yIdx1 rfl Try.underlying38 Try.sizeOf3 rfl rfl rfl hk)) ?_
          refine lexQ rfl rfl rfl rfl (fun H hM => (yLoad rfl Try.underlying3 rfl rfl (hM.cell hp hnm))) ?_
          -- e slot 41: call F11<farandole/wire.Int> t36 t40
          refine lexE0 rfl rfl rfl rfl rfl (fun hM41 => stepCall rfl Try.call11 rfl ?_)
          refine (int_c _ l[k] H0.size _ Hk (h64 _ hkl) (by omega) ho (by rw [List.length_append]; omega)).mono ?_
          rintro v3 H3 ⟨o3, g3⟩
          refine lexGrew g3 (fun g e => by rw [Option.mem_toList]; exact e) (fun b hb => by rw [Option.mem_toList] at hb; exact (ho.lt b hb).2) (fun g e => (o3.lt g e).2) ?_
          obtain ⟨A3, c3, rfl, -⟩ := o3.form
          refine lexQ rfl rfl rfl rfl (fun H hM => (yMove (v := .slice _ _ _) rfl rfl)) ?_
          refine lexQ rfl rfl rfl rfl (fun H hM => (yMove (v := .int _ _) rfl rfl)) ?_
          refine lexQ rfl rfl rfl rfl (fun H hM => (yIdx1 rfl Try.underlying38 Try.sizeOf3 rfl rfl rfl hk)) ?_
          refine lexQ rfl rfl rfl rfl (fun H hM => (yLoad rfl Try.underlying3 rfl rfl (hM.cell hp hnm))) ?_
          refine lexQ rfl rfl rfl rfl (fun H hM => (yRemT rfl rfl rfl (by decide))) ?_
          refine lexQ rfl rfl rfl rfl (fun H hM => (yEql rfl rfl rfl)) ?_
          -- tail
          refine lexNil0 rfl (fun hM => ?_)
          -- e slot 48: call F18<farandole/wire.Bool> t41 t47
          refine seqE rfl rfl (stepCall rfl Try.call18 rfl ?_)
          have h3 := encI_length (h64 _ hkl)
          have s3 := g3.1.size
          refine (bool_c _ (decide (l[k].tmod 2 = 0)) H0.size _ H3 (by omega) o3 (by rw [List.length_append, List.length_append]; omega)).mono ?_
          rintro v4 H4 ⟨o4, g4⟩
          obtain ⟨A4, c4, rfl, -⟩ := o4.form
          refine seqQ rfl rfl (yAssign (v := .slice _ _ _) rfl rfl) ?_
          refine seqNil ?_
          refine hF14 _ _ ?_; clear hF14
          refine wpRegion ?_
          refine seqQ rfl rfl (yMove (v := .int _ _) rfl rfl) ?_
          refine seqQ rfl rfl (yAdd rfl rfl rfl (by unfold In64; omega)) ?_
          refine seqQ rfl rfl (yAssign (v := .int _ _) rfl rfl) ?_
          refine seqNil ?_
          -- end loop
          exact loopEnd (k + 1, _) (by repeat (first | (with_reducible exact Agree.refl _ _) | refine Agree.upd ?_ rfl | refine Agree.over ?_ rfl)) (by dsimp only; omega) ⟨rfl, rfl, trivial⟩ ⟨hk, by dsimp only; rw [flat_take encNB hk, ← List.append_assoc, encNB, ← List.append_assoc]; exact o4, (g3.trans g4).ext hg (fun g e => (ho.lt g e).1)⟩
        · skip
          obtain rfl : k = l.length := by dsimp only at hlt; omega
          rw [List.take_length] at ho
          have z2 := flat_le encNB 11 l (fun y hy => encNB_le (h64 y hy))
          refine wpExit ?_
          refine hF10 _ _ ?_; clear hF10
          refine wpSeq fun F15 hF15 => ?_
          refine wpSeq fun F16 hF16 => ?_
          refine wpRegion ?_
          refine seqQ rfl rfl (yAssign (v := .int _ _) rfl rfl) ?_
          refine seqNil ?_
          refine hF16 _ _ ?_; clear hF16
          -- loop
          refine wpBlock ?_
          refine wpLoopS [7, 9, 49, 50, 51, 52, 53, 54, 55, 56, 57, 58, 59, 60, 61, 62, 63, 64, 65, 66] (fun x : Nat × Value => [(9, .int .i64 x.1), (7, x.2)]) (fun z H' => z.1 ≤ ss.length ∧ Own eByte 5 H' H0.size z.2 (encInts l ++ l.flatMap encNB ++ (ss.take z.1).flatMap encTT) ∧ Ext H0 H') (fun z => ss.length - z.1) (0, _) ⟨rfl, rfl, trivial⟩ ⟨Nat.zero_le _, by simpa using ho, hg⟩ ?_
          clear ho hg
          rintro ⟨k, v⟩ J Hk ⟨hk, ho, hg⟩
          dsimp only at hk ho hg
          have sk := hg.size
          obtain ⟨A2, c2, rfl, -⟩ := ho.form
          refine wpSeq fun F17 hF17 => ?_
          refine wpSeq fun F18 hF18 => ?_
          refine wpRegion ?_
          refine seqQ rfl rfl (yMove (v := .int _ _) rfl rfl) ?_
          refine seqQ rfl rfl (yMove (v := .slice _ _ _) rfl rfl) ?_
          refine seqQ rfl rfl (yLen rfl Try.underlying39 rfl) ?_
          refine seqQ rfl rfl (yLss rfl rfl rfl) ?_
          refine seqNil ?_
          refine hF18 _ _ ?_; clear hF18
          -- if t52
          refine wpIf rfl (fun hlt => ?_) (fun hlt => ?_)
          · skip
            have hk : k < ss.length := by dsimp only at hlt; omega
            have hs := hf1 _ (List.getElem_mem hk)
            obtain ⟨p, rfl, hp⟩ := ((hB.ext x0).ext hg).at1 hk
            have hpl := hBl p rfl (List.ne_nil_of_length_pos (by omega))
            have hfl := flat_le encTT 420 (ss.take k) (fun y hy => encTT_le (hf1 y (List.mem_of_mem_take hy)))
            rw [List.length_take] at hfl
            have hnm : (p.add k).block ∉ (Value.slice A2 (encInts l ++ l.flatMap encNB ++ (ss.take k).flatMap encTT).length c2).ownBlock.toList := by
              rw [Option.mem_toList, block_of_add]
              intro e
              have := (ho.lt _ e).1
              omega
            refine wpSkip ?_
            refine hF17 _ _ ?_; clear hF17
            refine wpSeq fun F19 hF19 => ?_
            refine wpBlock ?_
            refine wpRegionD Try_mixed [.q, .q, .q, .q, .q, .e, .q, .q, .q, .q, .n, .e, .q] 11 [0, 0, 0, 6, 14, 31, 0, 0, 192, 448, 960, 2047, 4095] (Value.slice A2 (encInts l ++ l.flatMap encNB ++ (ss.take k).flatMap encTT).length c2).ownBlock.toList (by kernel_rfl) _ rfl [0, 1, 2, 3, 4, 5, 6, 7, 8, 9, 10] rfl (fun b hb => by rw [Option.mem_toList] at hb; exact (ho.lt b hb).2) ?_
            refine lexQ rfl rfl rfl rfl (fun H hM => (yMove (v := .slice _ _ _) rfl rfl)) ?_
            refine lexQ rfl rfl rfl rfl (fun H hM => (yMove (v := .slice _ _ _) rfl rfl)) ?_
            refine lexQ rfl rfl rfl rfl (fun H hM => (yMove (v := .int _ _) rfl rfl)) ?_
            refine lexQ rfl rfl rfl rfl (fun H hM => (yIdx1 rfl Try.underlying39 Try.sizeOf9 rfl rfl rfl hk)) ?_
            refine lexQ rfl rfl rfl rfl (fun H hM => (yLoad rfl Try.underlying9 rfl rfl (hM.cell hp hnm))) ?_
            -- e slot 60: call F12<farandole/wire.Text> t55 t59
            refine lexE rfl rfl rfl rfl (fun H60 hX60 hM60 hN60 => stepCall rfl Try.call12 rfl ?_)
            refine (text_c _ ss[k] H0.size _ H60 (by have := hX60.size; omega) (ho.ext hX60) (by simp only [List.length_append]; omega) (by omega)).mono ?_
            rintro v3 H3 ⟨o3, g3⟩
            refine lexGrew g3 (fun g e => by rw [Option.mem_toList]; exact e) (fun b hb => by rw [Option.mem_toList] at hb; have := (ho.lt b hb).2; have := hX60.size; omega) (fun g e => (o3.lt g e).2) ?_
            obtain ⟨A3, c3, rfl, -⟩ := o3.form
            refine lexQ rfl rfl rfl rfl (fun H hM => (yMove (v := .slice _ _ _) rfl rfl)) ?_
            refine lexQ rfl rfl rfl rfl (fun H hM => (yMove (v := .int _ _) rfl rfl)) ?_
            refine lexQ rfl rfl rfl rfl (fun H hM => (yIdx1 rfl Try.underlying39 Try.sizeOf9 rfl rfl rfl hk)) ?_
            refine lexQ rfl rfl rfl rfl (fun H hM => (yLoad rfl Try.underlying9 rfl rfl (hM.cell hp hnm))) ?_
            refine lexSB rfl rfl rfl rfl rfl Try.underlying9 Try.underlying29 Try.underlying5 rfl (fun g65 c65 ob65 hg65 hne65 hr65 => ?_)
            -- tail
            refine lexNilM (fun K5 hX5 hM5 hN5 hD5 => ?_)
            -- e slot 66: call F19<farandole/wire.Bytes> t60 t65
            refine seqE rfl rfl (stepCall rfl Try.call19 rfl ?_)
            have s3 := g3.1.size
            have s5 := hX5.size
            have s6 := hX60.size
            have hs1 : (ss[k].data.toList).length = ss[k].size := rfl
            have hbl := encBytes_le (x := ss[k].data.toList) (by omega)
            have hnn : g65 ∉ (Value.slice A3 (encInts l ++ l.flatMap encNB ++ (ss.take k).flatMap encTT ++ encBytes ss[k].data.toList).length c3).ownBlock.toList := fun h => hD5 ⟨10, g65, ob65⟩ (by simp) (List.mem_append.2 (.inl h))
            refine (bytes_c _ (some ⟨g65, 0, none⟩) c65 ss[k].data.toList H0.size _ K5 (by omega) (o3.ext hX5) (hr65 K5 (hN5 ⟨10, g65, ob65⟩ (by simp))) (fun p e h => by cases e; exact hnn (by rw [Option.mem_toList]; exact h)) (by simp only [List.length_append] at *; omega) (by omega)).mono ?_
            rintro v4 H4 ⟨o4, g4⟩
            obtain ⟨A4, c4, rfl, -⟩ := o4.form
            have hfin : Ext H0 H4 := ((((hg.trans hX60).mine g3.1 (fun b hb => by rw [Option.mem_toList] at hb; exact (ho.lt b hb).1)).trans hX5).mine g4.1 (fun b hb => by rw [Option.mem_toList] at hb; exact (o3.lt b hb).1))
            refine seqQ rfl rfl (yAssign (v := .slice _ _ _) rfl rfl) ?_
            refine seqNil ?_
            refine hF19 _ _ ?_; clear hF19
            refine wpRegion ?_
            refine seqQ rfl rfl (yMove (v := .int _ _) rfl rfl) ?_
            refine seqQ rfl rfl (yAdd rfl rfl rfl (by unfold In64; omega)) ?_
            refine seqQ rfl rfl (yAssign (v := .int _ _) rfl rfl) ?_
            refine seqNil ?_
            -- end loop
            exact loopEnd (k + 1, _) (by repeat (first | (with_reducible exact Agree.refl _ _) | refine Agree.upd ?_ rfl | refine Agree.over ?_ rfl)) (by dsimp only; omega) ⟨rfl, rfl, trivial⟩ ⟨hk, by dsimp only; rw [flat_take encTT hk, ← List.append_assoc, encTT, ← List.append_assoc]; exact o4, hfin⟩
          · skip
            obtain rfl : k = ss.length := by dsimp only at hlt; omega
            have z3 := flat_le encTT 420 ss (fun y hy => encTT_le (hf1 y hy))
            refine wpExit ?_
            refine hF15 _ _ ?_; clear hF15
            refine wpSeq fun F20 hF20 => ?_
            refine wpRegion ?_
            refine seqQ rfl rfl (yMove (v := .slice _ _ _) rfl rfl) ?_
            refine seqQ rfl rfl (yMove (v := .slice _ _ _) rfl rfl) ?_
            -- e slot 69: call F21<farandole/farandolelaw01.joined> t67 t68
            refine seqE rfl rfl (stepCall rfl Try.call21 rfl ?_)
            have zz : (encInts l ++ l.flatMap encNB ++ (ss.take ss.length).flatMap encTT).length ≤ 20000 := by rw [List.take_length]; simp only [List.length_append]; omega
            refine (joined_c A2 C _ rs c2 cc Hk (Own.rd ho).2 ((hC.ext x0).ext hg) (by omega)).mono ?_
            rintro v H5 ⟨x5, o5⟩
            obtain ⟨D, hD⟩ : ∃ D, D = encInts l ++ l.flatMap encNB ++ ss.flatMap encTT ++ rs := ⟨_, rfl⟩
            rw [List.take_length, ← hD] at o5
            have hDl : D.length ≤ 21000 := by rw [List.take_length] at zz; rw [hD, List.length_append]; omega
            clear zz z1 z2 z3 hlt
            obtain ⟨A5, c5, rfl, -⟩ := o5.form
            -- e slot 70: call F20<farandole/wire.New> t69
            refine seqE rfl rfl (stepCall rfl Try.call20 rfl ?_)
            refine (New_c A5 c5 D H5 (Own.rd o5).2 (by omega)).mono ?_
            rintro v H6 ⟨x6, g, Bd, cd, rfl, hgn, q, -⟩
            have hE := (hg.trans x5).trans x6
            have s5 := x5.size
            clear hg x5 x6 o5 ho
            have hgg : H0.size ≤ g := by omega
            have hd0 : D.drop 0 = encI l.length ++ l.flatMap encI ++ (l.flatMap encNB ++ (ss.flatMap encTT ++ rs)) := by rw [hD, List.drop_zero]; simp only [encInts, List.append_assoc]
            refine seqQ rfl rfl (yAssign (v := .pointer _) rfl rfl) ?_
            refine seqNil ?_
            refine hF20 _ _ ?_; clear hF20
            refine wpSeq fun F21 hF21 => ?_
            refine wpSeq fun F22 hF22 => ?_
            refine wpRegion ?_
            refine seqQ rfl rfl (yMove (v := .pointer _) rfl rfl) ?_
            -- e slot 72: call F23<(*farandole/wire.Reader).Ints> t71 [i:i64:60]
            refine seqE rfl rfl (stepCall rfl Try.call23 rfl ?_)
            refine (Ints_c g Bd cd D 0 false 60 H6 q (by decide)).mono ?_
            rintro v H7 hp
            have hq0 : pList rdI 60 (D.drop 0) = some (l, l.flatMap encNB ++ (ss.flatMap encTT ++ rs)) := by
              rw [hd0]
              exact pList_enc (by omega) (by omega) (fun x hx r => rdI_enc (h64 x hx) r) _
            obtain ⟨hK7, k1, e1, q1, o1', -⟩ := hp.ok hq0
            clear hp q
            obtain ⟨A7, c7, rfl, -⟩ := Own.form o1'
            replace hE := hE.mine hK7 (by simpa using hgg)
            refine seqQ rfl rfl (yMove (v := .slice _ _ _) rfl rfl) ?_
            -- e slot 74: call F22<farandole/farandoleref01.SameInts> t72 t73
            refine seqE rfl rfl (stepCall rfl Try.call22 rfl ?_)
            refine (sameI_c A7 A c7 ca l l H7 (Own.rd o1').2 ((hA.ext x0).ext hE) (by omega)).mono ?_
            rintro v Hz ⟨hv, e⟩
            obtain rfl : v = .bool true := hv.trans (by simp)
            obtain rfl := e.symm
            clear e hv o1' hK7
            refine seqQ rfl rfl (yNot rfl rfl) ?_
            refine seqNil ?_
            refine hF22 _ _ ?_; clear hF22
            -- if t75
            refine wpF rfl ?_
            refine wpSkip ?_
            refine hF21 _ _ ?_; clear hF21
            refine wpSeq fun F23 hF23 => ?_
            refine wpSeq fun F24 hF24 => ?_
            refine wpRegion ?_
            refine seqQ rfl rfl (yAssign (v := .int _ _) rfl rfl) ?_
            refine seqNil ?_
            refine hF24 _ _ ?_; clear hF24
            -- loop
            refine wpBlock ?_
            refine wpLoopS [6, 11, 76, 77, 78, 79, 80, 81, 82, 83, 84, 85, 86, 87, 88, 89, 90, 91, 92, 93, 94, 95, 96, 97, 98, 99, 100, 101, 102, 103, 104, 105, 106, 107] (fun k : Nat => [(11, .int .i64 k)]) (fun i H' => i ≤ l.length ∧ Ext H0 H' ∧ ∃ k, D.drop k = (l.drop i).flatMap encNB ++ (ss.flatMap encTT ++ rs) ∧ Rdr H' g Bd cd D k false) (fun i => l.length - i) 0 ⟨rfl, trivial⟩ ⟨Nat.zero_le _, hE, k1, e1, q1⟩ ?_
            clear hE e1 q1
            rintro i J Hk ⟨hi, hE, k1, e1, q1⟩
            have sk := hE.size
            have lg := q1.blk.lt
            refine wpSeq fun F25 hF25 => ?_
            refine wpSeq fun F26 hF26 => ?_
            refine wpRegion ?_
            refine seqQ rfl rfl (yMove (v := .int _ _) rfl rfl) ?_
            refine seqQ rfl rfl (yMove (v := .slice _ _ _) rfl rfl) ?_
            refine seqQ rfl rfl (yLen rfl Try.underlying38 rfl) ?_
            refine seqQ rfl rfl (yLss rfl rfl rfl) ?_
            refine seqNil ?_
            refine hF26 _ _ ?_; clear hF26
            -- if t79
            refine wpIf rfl (fun hlt => ?_) (fun hlt => ?_)
            · skip
              have hk : i < l.length := by omega
              have hkl := List.getElem_mem hk
              obtain ⟨p, rfl, hp⟩ := ((hA.ext x0).ext hE).at1 hk
              have hpl := hAl p rfl (List.ne_nil_of_length_pos (by omega))
              have hnm : (p.add i).block ∉ [g] := by
                rw [block_of_add]
                simp
                omega
              rw [List.drop_eq_getElem_cons hk, List.flatMap_cons, List.append_assoc, encNB, List.append_assoc] at e1
              refine wpSkip ?_
              refine hF25 _ _ ?_; clear hF25
              refine wpSeq fun F27 hF27 => ?_
              refine wpBlock ?_
              refine wpSeq fun F28 hF28 => ?_
              refine wpRegionD Try_mixed [.q, .q, .q, .q, .q, .q, .q, .q, .q, .e, .q, .q, .q, .q, .q, .q, .q, .e, .q, .q, .q, .q, .q, .q, .q, .q] 24 [0, 0, 0, 6, 14, 0, 0, 96, 224, 511, 0, 0, 3072, 7168, 16383, 32767, 65535, 131071, 65535, 65535, 851967, 1900543, 3997695, 8191999, 16777215, 33554431] [g] (by kernel_rfl) _ rfl [0, 1, 2, 3, 4, 5, 6, 7, 8, 9, 10, 11, 12, 13, 14, 15, 16, 17, 18, 19, 20, 21, 22, 23] rfl (by simp; omega) ?_
              refine lexQ rfl rfl rfl rfl (fun H hM => (yMove (v := .pointer _) rfl rfl)) ?_
              refine lexQ rfl rfl rfl rfl (fun H hM => (yMove (v := .slice _ _ _) rfl rfl)) ?_
              refine lexQ rfl rfl rfl rfl (fun H hM => (yMove (v := .int _ _) rfl rfl)) ?_
              refine lexQ rfl rfl rfl rfl (fun H hM => (yIdx1 rfl Try.underlying38 Try.sizeOf3 rfl rfl rfl hk)) ?_
              refine lexQ rfl rfl rfl rfl (fun H hM => (yLoad rfl Try.underlying3 rfl rfl (hM.cell hp hnm))) ?_
              refine lexQ rfl rfl rfl rfl (fun H hM => (yMove (v := .slice _ _ _) rfl rfl)) ?_
              refine lexQ rfl rfl rfl rfl (fun H hM => (yMove (v := .int _ _) rfl rfl)) ?_
              refine lexQ rfl rfl rfl rfl (fun H hM => (yIdx1 rfl Try.underlying38 Try.sizeOf3 rfl rfl rfl hk)) ?_
              refine lexQ rfl rfl rfl rfl (fun H hM => (yLoad rfl Try.underlying3 rfl rfl (hM.cell hp hnm))) ?_
              -- e slot 91: call F24<(*farandole/wire.Reader).Bounded> t82 t86 t90
              refine lexE0 rfl rfl rfl rfl rfl (fun hM91 => stepCall rfl Try.call24 rfl ?_)
              refine (Bounded_c g Bd cd D k1 false l[i] l[i] Hk q1).mono ?_
              rintro v H8 hp8
              obtain ⟨hK8, k2, e2, q2, hv⟩ := hp8.ok (by rw [e1]; exact pBnd_enc (h64 _ hkl) ⟨Int.le_refl _, Int.le_refl _⟩ _)
              obtain ⟨rfl, -⟩ := hv
              refine ⟨hK8, [g], by have := hK8.size; simp; omega, ?_⟩
              refine lexQ rfl rfl rfl rfl (fun H hM => (yMove (v := .slice _ _ _) rfl rfl)) ?_
              refine lexQ rfl rfl rfl rfl (fun H hM => (yMove (v := .int _ _) rfl rfl)) ?_
              refine lexQ rfl rfl rfl rfl (fun H hM => (yIdx1 rfl Try.underlying38 Try.sizeOf3 rfl rfl rfl hk)) ?_
              refine lexQ rfl rfl rfl rfl (fun H hM => (yLoad rfl Try.underlying3 rfl rfl (hM.cell hp hnm))) ?_
              refine lexQ rfl rfl rfl rfl (fun H hM => (yNeq rfl rfl rfl)) ?_
              -- guard t97
              refine lexGB rfl rfl rfl rfl rfl rfl (fun hq => ?_) (fun hq => ?_)
              · skip
                simp at hq
              · skip
                refine lexQ rfl rfl rfl rfl (fun H hM => (yMove (v := .pointer _) rfl rfl)) ?_
                -- e slot 99: call F25<(*farandole/wire.Reader).Bool> t98
                refine lexE0 rfl rfl rfl rfl rfl (fun hM99 => stepCall rfl Try.call25 rfl ?_)
                refine (Bool_c g Bd cd D k2 false H8 q2).mono ?_
                rintro v H9 hp9
                obtain ⟨hK9, k3, e3, q3, rfl⟩ := hp9.ok (by rw [e2]; exact pBool_enc _ _)
                refine ⟨hK9, [g], by have := hK8.size; have := hK9.size; simp; omega, ?_⟩
                refine lexQ rfl rfl rfl rfl (fun H hM => (yMove (v := .slice _ _ _) rfl rfl)) ?_
                refine lexQ rfl rfl rfl rfl (fun H hM => (yMove (v := .int _ _) rfl rfl)) ?_
                refine lexQ rfl rfl rfl rfl (fun H hM => (yIdx1 rfl Try.underlying38 Try.sizeOf3 rfl rfl rfl hk)) ?_
                refine lexQ rfl rfl rfl rfl (fun H hM => (yLoad rfl Try.underlying3 rfl rfl (hM.cell hp hnm))) ?_
                refine lexQ rfl rfl rfl rfl (fun H hM => (yRemT rfl rfl rfl (by decide))) ?_
                refine lexQ rfl rfl rfl rfl (fun H hM => (yEql rfl rfl rfl)) ?_
                -- tail
                refine lexNil0 rfl (fun hM => ?_)
                refine seqQ rfl rfl (yNeqB rfl Try.underlying4 rfl rfl) ?_
                refine seqQ rfl rfl (yPickF (v := .bool _) rfl rfl rfl) ?_
                refine seqNil ?_
                refine hF28 _ _ ?_; clear hF28
                -- if t107
                refine wpCond rfl (fun hq2 => ?_) (fun hq2 => ?_)
                · skip
                  simp at hq2
                · skip
                  refine wpSkip ?_
                  refine hF27 _ _ ?_; clear hF27
                  refine wpRegion ?_
                  refine seqQ rfl rfl (yMove (v := .int _ _) rfl rfl) ?_
                  refine seqQ rfl rfl (yAdd rfl rfl rfl (by unfold In64; omega)) ?_
                  refine seqQ rfl rfl (yAssign (v := .int _ _) rfl rfl) ?_
                  refine seqNil ?_
                  -- end loop
                  exact loopEnd (i + 1) (by repeat (first | (with_reducible exact Agree.refl _ _) | refine Agree.upd ?_ rfl | refine Agree.over ?_ rfl)) (by omega) ⟨rfl, trivial⟩ ⟨hk, (hE.mine hK8 (by simpa using hgg)).mine hK9 (by simpa using hgg), k3, e3, q3⟩
            · skip
              obtain rfl : i = l.length := by omega
              rw [List.drop_length, List.flatMap_nil, List.nil_append] at e1
              refine wpExit ?_
              refine hF23 _ _ ?_; clear hF23
              refine wpSeq fun F29 hF29 => ?_
              refine wpSeq fun F30 hF30 => ?_
              refine wpRegion ?_
              refine seqQ rfl rfl (yAssign (v := .int _ _) rfl rfl) ?_
              refine seqNil ?_
              refine hF30 _ _ ?_; clear hF30
              -- loop
              refine wpBlock ?_
              refine wpLoopS [6, 12, 108, 109, 110, 111, 112, 113, 114, 115, 116, 117, 118, 119, 120, 121, 122, 123, 124, 125, 126, 127, 128, 129, 130, 131, 132, 133, 134, 135] (fun k : Nat => [(12, .int .i64 k)]) (fun i H' => i ≤ ss.length ∧ Ext H0 H' ∧ ∃ k, D.drop k = (ss.drop i).flatMap encTT ++ rs ∧ Rdr H' g Bd cd D k false) (fun i => ss.length - i) 0 ⟨rfl, trivial⟩ ⟨Nat.zero_le _, hE, k1, e1, q1⟩ ?_
              clear hE e1 q1 lg sk
              rintro i J Hk ⟨hi, hE, k1, e1, q1⟩
              have sk := hE.size
              have lg := q1.blk.lt
              refine wpSeq fun F31 hF31 => ?_
              refine wpSeq fun F32 hF32 => ?_
              refine wpRegion ?_
              refine seqQ rfl rfl (yMove (v := .int _ _) rfl rfl) ?_
              refine seqQ rfl rfl (yMove (v := .slice _ _ _) rfl rfl) ?_
              refine seqQ rfl rfl (yLen rfl Try.underlying39 rfl) ?_
              refine seqQ rfl rfl (yLss rfl rfl rfl) ?_
              refine seqNil ?_
              refine hF32 _ _ ?_; clear hF32
              -- if t111
              refine wpIf rfl (fun hlt => ?_) (fun hlt => ?_)
              · skip
                have hk : i < ss.length := by omega
                have hs := hf1 _ (List.getElem_mem hk)
                have hs1 : (ss[i].data.toList).length = ss[i].size := rfl
                obtain ⟨p, rfl, hp⟩ := ((hB.ext x0).ext hE).at1 hk
                have hpl := hBl p rfl (List.ne_nil_of_length_pos (by omega))
                have hnm : (p.add i).block ∉ [g] := by
                  rw [block_of_add]
                  simp
                  omega
                rw [List.drop_eq_getElem_cons hk, List.flatMap_cons, List.append_assoc, encTT, List.append_assoc] at e1
                refine wpSkip ?_
                refine hF31 _ _ ?_; clear hF31
                refine wpSeq fun F33 hF33 => ?_
                refine wpBlock ?_
                refine wpSeq fun F34 hF34 => ?_
                refine wpRegionD Try_mixed [.q, .q, .q, .q, .q, .q, .e, .q, .q, .q, .q, .q, .q, .q, .e, .e, .q, .q, .q, .q, .q, .q] 20 [0, 0, 0, 6, 14, 30, 63, 0, 0, 384, 896, 2047, 4095, 8191, 16383, 32767, 8191, 8191, 204799, 466943, 1048575, 2097151] [g] (by kernel_rfl) _ rfl [0, 1, 2, 3, 4, 5, 6, 7, 8, 9, 10, 11, 12, 13, 14, 15, 16, 17, 18, 19] rfl (by simp; omega) ?_
                refine lexQ rfl rfl rfl rfl (fun H hM => (yMove (v := .pointer _) rfl rfl)) ?_
                refine lexQ rfl rfl rfl rfl (fun H hM => (yMove (v := .slice _ _ _) rfl rfl)) ?_
                refine lexQ rfl rfl rfl rfl (fun H hM => (yMove (v := .int _ _) rfl rfl)) ?_
                refine lexQ rfl rfl rfl rfl (fun H hM => (yIdx1 rfl Try.underlying39 Try.sizeOf9 rfl rfl rfl hk)) ?_
                refine lexQ rfl rfl rfl rfl (fun H hM => (yLoad rfl Try.underlying9 rfl rfl (hM.cell hp hnm))) ?_
                refine lexQ rfl rfl rfl rfl (fun H hM => (yLenS rfl Try.underlying9 rfl)) ?_
                -- e slot 120: call F26<(*farandole/wire.Reader).Text> t114 t119
                refine lexE0 rfl rfl rfl rfl rfl (fun hM120 => stepCall rfl Try.call26 rfl ?_)
                refine (Text_c g Bd cd D k1 false (ss[i].size : Int) Hk q1 (by omega)).mono ?_
                rintro v H8 hp8
                obtain ⟨hK8, k2, e2, q2, rfl⟩ := hp8.ok (by rw [e1]; exact pBytes_enc (by omega) (by omega) _)
                refine ⟨hK8, [g], by have := hK8.size; simp; omega, ?_⟩
                refine lexQ rfl rfl rfl rfl (fun H hM => (yMove (v := .slice _ _ _) rfl rfl)) ?_
                refine lexQ rfl rfl rfl rfl (fun H hM => (yMove (v := .int _ _) rfl rfl)) ?_
                refine lexQ rfl rfl rfl rfl (fun H hM => (yIdx1 rfl Try.underlying39 Try.sizeOf9 rfl rfl rfl hk)) ?_
                refine lexQ rfl rfl rfl rfl (fun H hM => (yLoad rfl Try.underlying9 rfl rfl (hM.cell hp hnm))) ?_
                refine lexQ rfl rfl rfl rfl (fun H hM => (yNeqS rfl rfl rfl)) ?_
                -- guard t126
                refine lexGB rfl rfl rfl rfl rfl rfl (fun hq => ?_) (fun hq => ?_)
                · skip
                  simp at hq
                · skip
                  refine lexQ rfl rfl rfl rfl (fun H hM => (yMove (v := .pointer _) rfl rfl)) ?_
                  -- e slot 128: call F27<(*farandole/wire.Reader).Bytes> t127 [i:i64:200]
                  refine lexE0 rfl rfl rfl rfl rfl (fun hM128 => stepCall rfl Try.call27 rfl ?_)
                  refine (Bytes_c g Bd cd D k2 false 200 H8 q2 (by decide)).mono ?_
                  rintro v H9 hp9
                  obtain ⟨hK9, k3, e3, q3, hv⟩ := hp9.ok (by rw [e2]; exact pBytes_enc (by omega) (by omega) _)
                  obtain ⟨A9, c9, rfl, -⟩ := Own.form hv
                  have s8 := hK8.size
                  have s9 := hK9.size
                  refine ⟨hK9, [g], by simp; omega, ?_⟩
                  refine lexY0 rfl rfl rfl rfl rfl (by simp; omega) (fun hM => (yBytesStr rfl Try.underlying29 Try.underlying9 Try.underlying5 rfl rfl (Own.rd hv).2)) ?_
                  refine lexQ rfl rfl rfl rfl (fun H hM => (yMove (v := .slice _ _ _) rfl rfl)) ?_
                  refine lexQ rfl rfl rfl rfl (fun H hM => (yMove (v := .int _ _) rfl rfl)) ?_
                  refine lexQ rfl rfl rfl rfl (fun H hM => (yIdx1 rfl Try.underlying39 Try.sizeOf9 rfl rfl rfl hk)) ?_
                  refine lexQ rfl rfl rfl rfl (fun H hM => (yLoad rfl Try.underlying9 rfl rfl (hM.cell hp hnm))) ?_
                  -- tail
                  refine lexNil0 rfl (fun hM => ?_)
                  refine seqQ rfl rfl (yNeqS rfl rfl rfl) ?_
                  refine seqQ rfl rfl (yPickF (v := .bool _) rfl rfl rfl) ?_
                  refine seqNil ?_
                  refine hF34 _ _ ?_; clear hF34
                  -- if t135
                  refine wpCond rfl (fun hq2 => ?_) (fun hq2 => ?_)
                  · skip
                    simp at hq2
                  · skip
                    refine wpSkip ?_
                    refine hF33 _ _ ?_; clear hF33
                    refine wpRegion ?_
                    refine seqQ rfl rfl (yMove (v := .int _ _) rfl rfl) ?_
                    refine seqQ rfl rfl (yAdd rfl rfl rfl (by unfold In64; omega)) ?_
                    refine seqQ rfl rfl (yAssign (v := .int _ _) rfl rfl) ?_
                    refine seqNil ?_
                    -- end loop
                    exact loopEnd (i + 1) (by repeat (first | (with_reducible exact Agree.refl _ _) | refine Agree.upd ?_ rfl | refine Agree.over ?_ rfl)) (by omega) ⟨rfl, trivial⟩ ⟨hk, (hE.mine hK8 (by simpa using hgg)).mine hK9 (by simpa using hgg), k3, e3, q3⟩
              · skip
                obtain rfl : i = ss.length := by omega
                rw [List.drop_length, List.flatMap_nil, List.nil_append] at e1
                have hk1 : D.length - k1 = rs.length := by rw [← e1, List.length_drop]
                have hle := q1.le
                refine wpExit ?_
                refine hF29 _ _ ?_; clear hF29
                refine wpSeq fun F35 hF35 => ?_
                refine wpRegion ?_
                refine seqQ rfl rfl (yMove (v := .pointer _) rfl rfl) ?_
                -- e slot 137: call F28<(*farandole/wire.Reader).Left> t136
                refine seqE rfl rfl (stepCall rfl Try.call28 rfl ?_)
                refine (Left_c g Bd cd D k1 false Hk q1).mono ?_
                rintro v Hz ⟨rfl, e⟩
                obtain rfl := e.symm
                clear e
                refine seqQ rfl rfl (yMove (v := .slice _ _ _) rfl rfl) ?_
                refine seqQ rfl rfl (yLen rfl Try.underlying29 rfl) ?_
                refine seqQ rfl rfl (yEql rfl rfl rfl) ?_
                -- guard t141
                refine seqG rfl rfl rfl rfl (fun hq => ?_) (fun hq => ?_)
                · skip
                  refine seqQ rfl rfl (yMove (v := .pointer _) rfl rfl) ?_
                  -- e slot 143: call F29<(*farandole/wire.Reader).End> t142
                  refine seqE rfl rfl (stepCall rfl Try.call29 rfl ?_)
                  refine (End_c g Bd cd D k1 false Hk q1).mono ?_
                  rintro v Hz ⟨rfl, e⟩
                  obtain rfl := e.symm
                  clear e
                  by_cases h0 : rs.length = 0
                  · skip
                    rw [if_neg (by simp; omega)]
                    refine seqQ rfl rfl (yEql rfl rfl rfl) ?_
                    refine seqQ rfl rfl (yMove (v := .slice _ _ _) rfl rfl) ?_
                    refine seqQ rfl rfl (yLen rfl Try.underlying29 rfl) ?_
                    refine seqQ rfl rfl (yEql rfl rfl rfl) ?_
                    refine seqQ rfl rfl (yEqlB rfl Try.underlying4 rfl rfl) ?_
                    refine seqQ rfl rfl (yPickT (v := .bool _) rfl rfl rfl) ?_
                    refine seqQ rfl rfl (yAssign (v := .bool _) rfl rfl) ?_
                    refine seqNil ?_
                    refine hF35 _ _ ?_; clear hF35
                    -- ret
                    refine wpRet (fin1 (v := .bool _) rfl rfl ?_)
                    exact ⟨by simp [h0], x0.trans hE⟩
                  · skip
                    rw [if_pos (.inr (by omega))]
                    refine seqQ rfl rfl (yEql rfl rfl rfl) ?_
                    refine seqQ rfl rfl (yMove (v := .slice _ _ _) rfl rfl) ?_
                    refine seqQ rfl rfl (yLen rfl Try.underlying29 rfl) ?_
                    refine seqQ rfl rfl (yEql rfl rfl rfl) ?_
                    refine seqQ rfl rfl (yEqlB rfl Try.underlying4 rfl rfl) ?_
                    refine seqQ rfl rfl (yPickT (v := .bool _) rfl rfl rfl) ?_
                    refine seqQ rfl rfl (yAssign (v := .bool _) rfl rfl) ?_
                    refine seqNil ?_
                    refine hF35 _ _ ?_; clear hF35
                    -- ret
                    refine wpRet (fin1 (v := .bool _) rfl rfl ?_)
                    exact ⟨by simp [h0], x0.trans hE⟩
                · skip
                  omega
set_option maxRecDepth 100000 in
set_option maxRecDepth 100000 in
theorem wireRoundTrip_lifted (os : Os) (started : os.Started) (H : Type) (enc : TypeId × Value → H) :
    ReturnsInHanded {} Try.checked os 4 .any (Rows.wireRoundTripSpec.pre6 enc Try.prog Try.f4 Rows.wireRoundTripRow.domain false) (Rows.wireRoundTripSpec.post enc Try.prog Try.f4 false true false false) := by
  refine law_lifted started Rows.wireRoundTripSpec rfl (by kernel_rfl) Try.func4 rfl
    (fun ds h => by match ds, h with | [_, _, _], _ => rfl) (of_decide_eq_true (by kernel_rfl))
    (ChangeSpec.witness6 (enc := enc) (C := Try.checked) false ⟨#[], #[.slice none 0 0, .slice none 0 0, .slice none 0 0], []⟩ 8 (by kernel_rfl) (by kernel_rfl) (by kernel_rfl) (by kernel_rfl)) ?_
  intro W base args ds p hval hA
  rw [Try.params4] at hA hval
  obtain ⟨v0, v1, v2, d0, d1, d2, p0, p1, p2, rfl, rfl, rfl, h0, h1, h2⟩ := trodAll_three hA
  have g0 := hval 0 _ v0 rfl rfl
  have g1 := hval 1 _ v1 rfl rfl
  have g2 := hval 2 _ v2 rfl rfl
  obtain ⟨⟨A, ca, l⟩, rfl, kA, h64, -⟩ := (opn_ints W).one (one_slice Try.underlying38 g0) h0
  obtain ⟨⟨B, cb, ss⟩, rfl, kB, -, hb1, hb2⟩ := (opn_strs W).one (one_slice Try.underlying39 g1) h1
  obtain ⟨⟨C, cc, rs⟩, rfl, kC, -⟩ := (opn_bytes W).one (one_slice Try.underlying29 g2) h2
  exact trip_walk l ss rs A B C ca cb cc W.heap kA kB kC h64 (by have := Nat.le_trans hb1 hb2; unfold maxLen at this; exact this)
set_option maxRecDepth 100000 in
theorem wireRoundTrip_holds : Rows.WireRoundTripSaid :=
  OpenClaim.holds_of_wide 4 Try.f4 rfl rfl rfl rfl rfl rfl rfl ⟨rfl, rfl, rfl, rfl, rfl⟩ rfl rfl rfl rfl rfl (by kernel_rfl) Try.func4 (by kernel_rfl)
    (of_decide_eq_true (by kernel_rfl)) (by unfold Func.isWrapper; first | (rw [if_pos (by decide +kernel)]; kernel_rfl) | (rw [if_neg (by decide +kernel)]; exact ⟨rfl, rfl⟩))
    (fun os started H enc _ => wireRoundTrip_lifted os started H enc)
end Go.Proofs.Ytnccbnjjnijbhaa
