/- The walk over VclockLeast. -/
import Derived.Test.YtomejdempmbbmaaV4
namespace Go.Proofs.Ytomejdempmbbmaa
open Go.RowKit

theorem leB_max_left : ∀ (a b : List Int), leB a (List.zipWith max a b) = true
  | [], _ => by simp [leB]
  | _ :: _, [] => by simp [leB]
  | x :: a, y :: b => by simp only [List.zipWith_cons_cons, leB, leB_max_left a b, Bool.and_true, decide_eq_true_iff]; omega
theorem max_comm : ∀ (a b : List Int), List.zipWith max a b = List.zipWith max b a
  | [], [] => rfl
  | [], _ :: _ => rfl
  | _ :: _, [] => rfl
  | x :: a, y :: b => by simp only [List.zipWith_cons_cons, max_comm a b, Int.max_comm]
theorem max_again : ∀ (a b : List Int), a.length = b.length → List.zipWith max (List.zipWith max a b) a = List.zipWith max a b
  | [], [], _ => rfl
  | [], _ :: _, h => by simp at h
  | _ :: _, [], h => by simp at h
  | x :: a, y :: b, h => by
    simp only [List.zipWith_cons_cons, max_again a b (by simpa using h)]
    congr 1
    omega
theorem max_assoc : ∀ (a b c : List Int), List.zipWith max (List.zipWith max a b) c = List.zipWith max a (List.zipWith max b c)
  | [], _, _ => by simp
  | _ :: _, [], _ => by simp
  | _ :: _, _ :: _, [] => by simp
  | x :: a, y :: b, z :: c => by simp only [List.zipWith_cons_cons, max_assoc a b c]; congr 1; omega
theorem max_le : ∀ (a b c : List Int), leB a c = true → leB b c = true → a.length = b.length → leB (List.zipWith max a b) c = true
  | [], _, _, _, _, _ => by simp [leB]
  | _ :: _, [], _, _, _, h => by simp at h
  | _ :: _, _ :: _, [], _, _, _ => by simp [leB]
  | x :: a, y :: b, z :: c, h1, h2, h => by
    simp only [leB, List.zipWith_cons_cons, Bool.and_eq_true, decide_eq_true_iff] at h1 h2 ⊢
    exact ⟨by omega, max_le a b c h1.2 h2.2 (by simpa using h)⟩
theorem max_len {a b : List Int} (h : a.length = b.length) : (List.zipWith max a b).length = a.length := by rw [List.length_zipWith]; omega
theorem okC_max {a b : List Int} (h : a.length = b.length) (ha : okC a = true) (hb : okC b = true) : okC (List.zipWith max a b) = true := by
  obtain ⟨h1, h2, h3, h4⟩ := okC_of ha
  obtain ⟨k1, k2, k3, k4⟩ := okC_of hb
  unfold okC
  refine decide_eq_true ⟨by rw [max_len h]; exact h1, by rw [max_len h]; exact h2, ?_, ?_⟩ <;>
  · intro x hx
    obtain ⟨i, hi, rfl⟩ := List.getElem_of_mem hx
    rw [List.length_zipWith] at hi
    rw [List.getElem_zipWith]
    have := h3 _ (List.getElem_mem (l := a) (n := i) (by omega))
    have := k3 _ (List.getElem_mem (l := b) (n := i) (by omega))
    have := h4 _ (List.getElem_mem (l := a) (n := i) (by omega))
    have := k4 _ (List.getElem_mem (l := b) (n := i) (by omega))
    omega
/-- What the joins of three good clocks of one length show. -/
structure LeastFacts (x y z w : List Int) : Prop where
  j : joinF x y = (0, w)
  k : joinF y x = (0, w)
  again : joinF w x = (0, w)
  left : joinF w z = (0, List.zipWith max x (List.zipWith max y z))
  yz : joinF y z = (0, List.zipWith max y z)
  right : joinF x (List.zipWith max y z) = (0, List.zipWith max x (List.zipWith max y z))
  bx : beforeB w x = false
  b_y : beforeB w y = false
  cx : concB w x = false
  cy : concB w y = false
  le : (beforeB x z = true ∨ x = z) → (beforeB y z = true ∨ y = z) → beforeB w z = false → w = z
theorem leastFacts {x y z : List Int} (hx : okC x = true) (hy : okC y = true) (hz : okC z = true) (hxy : x.length = y.length) (hyz : y.length = z.length) : LeastFacts x y z (List.zipWith max x y) := by
  have lm := max_len hxy
  have lyz := max_len hyz
  have l1 := leB_max_left x y
  have l2 : leB y (List.zipWith max x y) = true := by rw [max_comm]; exact leB_max_left y x
  refine ⟨joinF_ok ⟨hx, hy, hxy⟩, ?_, ?_, ?_, joinF_ok ⟨hy, hz, hyz⟩, joinF_ok ⟨hx, okC_max hyz hy hz, by omega⟩, ?_, ?_, ?_, ?_, ?_⟩
  · rw [joinF_ok ⟨hy, hx, hxy.symm⟩, max_comm]
  · rw [joinF_ok ⟨okC_max hxy hx hy, hx, lm⟩, max_again x y hxy]
  · rw [joinF_ok ⟨okC_max hxy hx hy, hz, by omega⟩, max_assoc]
  · cases h : leB (List.zipWith max x y) x
    · simp [beforeB, h]
    · rw [leB_antisymm _ _ lm h l1]; exact beforeB_irrefl _
  · cases h : leB (List.zipWith max x y) y
    · simp [beforeB, h]
    · rw [leB_antisymm _ _ (by omega) h l2]; exact beforeB_irrefl _
  · simp [concB, l1]
  · simp [concB, l2]
  · intro h1 h2 h3
    have e1 : leB x z = true := by
      rcases h1 with h | rfl
      · simp only [beforeB, Bool.and_eq_true] at h; exact h.2
      · exact leB_refl _
    have e2 : leB y z = true := by
      rcases h2 with h | rfl
      · simp only [beforeB, Bool.and_eq_true] at h; exact h.2
      · exact leB_refl _
    have e3 := max_le x y z e1 e2 hxy
    unfold beforeB at h3
    rw [e3, Bool.and_true, decide_eq_true (by omega), Bool.true_and, Bool.not_eq_false', decide_eq_true_iff] at h3
    exact h3
theorem okC_small {l : List Int} {m : Int} (h3 : l.length = 3) (hw : ∀ z ∈ l, 0 ≤ z ∧ z ≤ 65535) (hm : m = 300 ∨ m = 600) : okC (l.map (· % m)) = true := by
  unfold okC
  refine decide_eq_true ⟨by simp [h3], by simp [h3], ?_, ?_⟩ <;>
  · intro x hx
    obtain ⟨y, hy, rfl⟩ := List.mem_map.1 hx
    have := hw y hy
    rcases hm with rfl | rfl <;> omega




set_option maxHeartbeats 1000000 in
theorem least_walk (al bl cl : List Int) (H : Heap) (la : al.length = 3) (lb : bl.length = 3) (lc : cl.length = 3) (hwa : ∀ z ∈ al, 0 ≤ z ∧ z ≤ 65535) (hwb : ∀ z ∈ bl, 0 ≤ z ∧ z ≤ 65535) (hwc : ∀ z ∈ cl, 0 ≤ z ∧ z ≤ 65535) :
    CallsH Try.prog 5 [.agg (al.map (Value.int .u16)).toArray, .agg (bl.map (Value.int .u16)).toArray, .agg (cl.map (Value.int .u16)).toArray] H fun v H' => v = .bool true ∧ Ext H H' := by
  refine callsH_of Try.func5 rfl Try.ntmps5 (Nat.le_of_ble_eq_true rfl) ?_
  refine wpSeq fun F1 hF1 => ?_
  refine wpRegion ?_
  refine seqN rfl rfl (nBoxA rfl rfl) (fun g3 H3 hx3 hB3 hg3 hl3 => ?_)
  refine seqN rfl rfl (nBoxA rfl rfl) (fun g4 H4 hx4 hB4 hg4 hl4 => ?_)
  refine seqN rfl rfl (nBoxA rfl rfl) (fun g5 H5 hx5 hB5 hg5 hl5 => ?_)
  refine seqQ rfl rfl (yAssign (v := .bool _) rfl rfl) ?_
  refine seqNil ?_
  refine hF1 _ _ ?_; clear hF1
  refine wpSeq fun F2 hF2 => ?_
  refine wpSeq fun F3 hF3 => ?_
  refine wpRegion ?_
  -- e slot 24: call F9<farandole/farandolelaw07.awake> 
  refine seqE rfl rfl (stepCall rfl Try.call9 rfl ?_)
  refine (awake_c _).mono ?_
  rintro v H0 ⟨rfl, hx0⟩
  have hBa := ((hB3.ext hx4).ext hx5).ext hx0
  have hBb := (hB4.ext hx5).ext hx0
  have hBc := hB5.ext hx0
  have hEE := ((hx3.trans hx4).trans hx5).trans hx0
  refine seqQ rfl rfl (yNot rfl rfl) ?_
  refine seqNil ?_
  refine hF3 _ _ ?_; clear hF3
  -- if t25
  refine wpF rfl ?_
  refine wpSkip ?_
  refine hF2 _ _ ?_; clear hF2
  refine wpSeq fun F4 hF4 => ?_
  refine wpRegion ?_
  refine seqQ rfl rfl (yAssign (v := .slice _ _ _) rfl rfl) ?_
  refine seqQ rfl rfl (yAssign (v := .slice _ _ _) rfl rfl) ?_
  refine seqQ rfl rfl (yAssign (v := .slice _ _ _) rfl rfl) ?_
  refine seqNil ?_
  refine hF4 _ _ ?_; clear hF4
  refine wpSeq fun F5 hF5 => ?_
  refine wpSeq fun F6 hF6 => ?_
  refine wpRegion ?_
  refine seqQ rfl rfl (yMove (v := .int _ _) rfl rfl) ?_
  refine seqNil ?_
  refine hF6 _ _ ?_; clear hF6
  -- loop
  refine wpBlock ?_
  refine wpLoopS [7, 8, 9, 10, 26, 27, 28, 29, 30, 31, 32, 33, 34, 35, 36, 37, 38, 39, 40, 41, 42, 43, 44, 45, 46, 47, 48, 49, 50, 51, 52, 53] (fun x : Nat × Value × Value × Value => [(7, x.2.1), (8, x.2.2.1), (9, x.2.2.2), (26, .int .i64 x.1)]) (fun x H' => x.1 ≤ 3 ∧ Ext H0 H' ∧ Three H' H0.size x.2.1 x.2.2.1 x.2.2.2 ((al.map (· % 300)).take x.1) ((bl.map (· % 300)).take x.1) ((cl.map (· % 600)).take x.1)) (fun x => 3 - x.1) (0, .slice none 0 0, .slice none 0 0, .slice none 0 0) ⟨rfl, rfl, rfl, rfl, trivial⟩ ⟨by decide, Ext.refl _, Own.nil _ _, Own.nil _ _, Own.nil _ _, Apart.nil _ _ _, Apart.nil _ _ _, Apart.nil _ _ _⟩ ?_
  rintro ⟨k, vx, vy, vz⟩ J0 H1 ⟨hk, hE, h3⟩
  dsimp only at hk hE h3 ⊢
  refine wpSeq fun F7 hF7 => ?_
  refine wpRegion ?_
  refine seqQ rfl rfl (yLss rfl rfl rfl) ?_
  refine seqNil ?_
  refine hF7 _ _ ?_; clear hF7
  refine wpSeq fun F8 hF8 => ?_
  -- if t27
  refine wpIf rfl (fun hlt => ?_) (fun hlt => ?_)
  · skip
    have hka : k < al.length := by omega
    have hkb : k < bl.length := by omega
    have hkc : k < cl.length := by omega
    obtain ⟨hx0, hy0, hz0, hxy, hxz, hyz⟩ := h3
    have ha0 := hwa al[k] (List.getElem_mem hka)
    have hb0 := hwb bl[k] (List.getElem_mem hkb)
    have hc0 := hwc cl[k] (List.getElem_mem hkc)
    have pa : cellH H1 ((⟨g3, 0, none⟩ : Addr).add k) = some (.int .u16 al[k]) := (hBa.ext hE).cell (by simp [hka])
    have pb : cellH H1 ((⟨g4, 0, none⟩ : Addr).add k) = some (.int .u16 bl[k]) := (hBb.ext hE).cell (by simp [hkb])
    have pc : cellH H1 ((⟨g5, 0, none⟩ : Addr).add k) = some (.int .u16 cl[k]) := (hBc.ext hE).cell (by simp [hkc])
    have hM0 : ∀ b ∈ vx.ownBlock.toList ++ (vy.ownBlock.toList ++ vz.ownBlock.toList), H0.size ≤ b ∧ b < H1.size := by
      intro b hb
      simp only [List.mem_append, Option.mem_toList] at hb
      rcases hb with h | h | h
      · exact hx0.lt b h
      · exact hy0.lt b h
      · exact hz0.lt b h
    refine wpSkip ?_
    refine hF8 _ _ ?_; clear hF8
    refine wpSeq fun F9 hF9 => ?_
    refine wpBlock ?_
    refine wpSeq fun F10 hF10 => ?_
    refine wpRegion ?_
    refine seqQ rfl rfl (yMove (v := .int _ _) rfl rfl) ?_
    refine seqQ rfl rfl (yAssign (v := .int _ _) rfl rfl) ?_
    refine seqNil ?_
    refine hF10 _ _ ?_; clear hF10
    refine wpRegionD Try_mixed [.q, .q, .q, .q, .q, .q, .n, .e, .q, .q, .q, .q, .q, .q, .n, .e, .q, .q, .q, .q, .q, .q, .n, .e, .q, .q, .q] 23 [0, 0, 2, 6, 14, 30, 62, 127, 0, 0, 512, 1536, 3584, 7680, 15872, 32767, 0, 0, 131072, 393216, 917504, 1966080, 4063232, 8388607, 16777215, 33554431, 67108863] (vx.ownBlock.toList ++ (vy.ownBlock.toList ++ vz.ownBlock.toList)) (by kernel_rfl) _ rfl [0, 1, 2, 3, 4, 5, 6, 7, 8, 9, 10, 11, 12, 13, 14, 15, 16, 17, 18, 19, 20, 21, 22] rfl (fun b hb => (hM0 b hb).2) ?_
    refine lexQ rfl rfl rfl rfl (fun H hM => (yMove (v := _) rfl rfl)) ?_
    refine lexQ rfl rfl rfl rfl (fun H hM => (yMove (v := .int _ _) rfl rfl)) ?_
    refine lexQ rfl rfl rfl rfl (fun H hM => (yIdxA1 rfl Try.underlying34 Try.sizeOf33 rfl rfl rfl (by omega))) ?_
    refine lexQ rfl rfl rfl rfl (fun H hM => (yLoad rfl Try.underlying33 rfl rfl (hM.cell pa (by rw [block_of_add]; intro hm; have h1 : H0.size ≤ g3 := (hM0 _ hm).1; have := hBa.lt; omega)))) ?_
    refine lexQ rfl rfl rfl rfl (fun H hM => (yRem rfl rfl rfl (by omega))) ?_
    refine lexQ rfl rfl rfl rfl (fun H hM => (yConv rfl Try.underlying33 Try.underlying3 rfl (IntWalk.i64_in _ (by omega)))) ?_
    refine lexNB rfl rfl rfl rfl (nBuildSlice (vs := [.int _ _]) rfl Try.underlying26 Try.sizeOf3 Try.zeroValue3 rfl rfl rfl rfl) (fun g35 hg35 => ?_)
    -- e slot 36: builtin append t29 t35 : [26, 26]
    refine lexE rfl rfl rfl rfl (fun H36 hX36 hM36 hN36 => stepApp (c := eInt) (hx0.ext hX36) rfl Try.underlying26 elem_eInt rfl (by omega) rfl rfl rfl (Blk.rd (c := eInt) (l := [al[k] % 300]) (hN36.blk (j := 6) (.head _) rfl)) (by simp; omega) (by have := hX36.size; have := hE.size; omega) ?_)
    intro v1 H2 hx1 g1
    refine lexGrew g1 (fun g hg => by simp [hg]) (fun b hb => Nat.lt_of_lt_of_le (hM0 b hb).2 hX36.size) (fun g hg => (hx1.lt g hg).2) ?_
    have hy1 := (hy0.ext hX36).grew g1 hxy
    have hz1 := (hz0.ext hX36).grew g1 hxz
    have hxy1 := hxy.grew (hy0.ext hX36) g1
    have hxz1 := hxz.grew (hz0.ext hX36) g1
    have hE1 := g1.ext (hE.trans hX36) (fun g hg => (hx0.lt g hg).1)
    have hM1 : ∀ b ∈ v1.ownBlock.toList ++ (vx.ownBlock.toList ++ (vy.ownBlock.toList ++ vz.ownBlock.toList)), b < H2.size := by
      intro b hb
      rcases List.mem_append.1 hb with hb | hb
      · rw [Option.mem_toList] at hb; exact (hx1.lt b hb).2
      · exact Nat.lt_of_lt_of_le (hM0 b hb).2 (Nat.le_trans hX36.size g1.1.size)
    refine lexQ rfl rfl rfl rfl (fun H hM => (yMove (v := _) rfl rfl)) ?_
    refine lexQ rfl rfl rfl rfl (fun H hM => (yMove (v := .int _ _) rfl rfl)) ?_
    refine lexQ rfl rfl rfl rfl (fun H hM => (yIdxA1 rfl Try.underlying34 Try.sizeOf33 rfl rfl rfl (by omega))) ?_
    refine lexQ rfl rfl rfl rfl (fun H hM => (yLoad rfl Try.underlying33 rfl rfl (hM.cell pb (by rw [block_of_add]; intro hm; have h1 : H0.size ≤ g4 := (hM0 _ hm).1; have := hBb.lt; omega)))) ?_
    refine lexQ rfl rfl rfl rfl (fun H hM => (yRem rfl rfl rfl (by omega))) ?_
    refine lexQ rfl rfl rfl rfl (fun H hM => (yConv rfl Try.underlying33 Try.underlying3 rfl (IntWalk.i64_in _ (by omega)))) ?_
    refine lexNB rfl rfl rfl rfl (nBuildSlice (vs := [.int _ _]) rfl Try.underlying26 Try.sizeOf3 Try.zeroValue3 rfl rfl rfl rfl) (fun g43 hg43 => ?_)
    -- e slot 44: builtin append t37 t43 : [26, 26]
    refine lexE rfl rfl rfl rfl (fun H44 hX44 hM44 hN44 => stepApp (c := eInt) (hy1.ext hX44) rfl Try.underlying26 elem_eInt rfl (by omega) rfl rfl rfl (Blk.rd (c := eInt) (l := [bl[k] % 300]) (hN44.blk (j := 14) (.head _) rfl)) (by simp; omega) (by have := hX44.size; have := hE1.size; omega) ?_)
    intro v2 H3 hy2 g2
    refine lexGrew g2 (fun g hg => by simp [hg]) (fun b hb => Nat.lt_of_lt_of_le (hM1 b hb) hX44.size) (fun g hg => (hy2.lt g hg).2) ?_
    have hx2 := (hx1.ext hX44).grew g2 hxy1.symm
    have hz2 := (hz1.ext hX44).grew g2 hyz
    have hxy2 := (hxy1.symm.grew (hx1.ext hX44) g2).symm
    have hyz2 := hyz.grew (hz1.ext hX44) g2
    have hE2 := g2.ext (hE1.trans hX44) (fun g hg => (hy1.lt g hg).1)
    have hM2 : ∀ b ∈ v2.ownBlock.toList ++ (v1.ownBlock.toList ++ (vx.ownBlock.toList ++ (vy.ownBlock.toList ++ vz.ownBlock.toList))), b < H3.size := by
      intro b hb
      rcases List.mem_append.1 hb with hb | hb
      · rw [Option.mem_toList] at hb; exact (hy2.lt b hb).2
      · exact Nat.lt_of_lt_of_le (hM1 b hb) (Nat.le_trans hX44.size g2.1.size)
    refine lexQ rfl rfl rfl rfl (fun H hM => (yMove (v := _) rfl rfl)) ?_
    refine lexQ rfl rfl rfl rfl (fun H hM => (yMove (v := .int _ _) rfl rfl)) ?_
    refine lexQ rfl rfl rfl rfl (fun H hM => (yIdxA1 rfl Try.underlying34 Try.sizeOf33 rfl rfl rfl (by omega))) ?_
    refine lexQ rfl rfl rfl rfl (fun H hM => (yLoad rfl Try.underlying33 rfl rfl (hM.cell pc (by rw [block_of_add]; intro hm; have h1 : H0.size ≤ g5 := (hM0 _ hm).1; have := hBc.lt; omega)))) ?_
    refine lexQ rfl rfl rfl rfl (fun H hM => (yRem rfl rfl rfl (by omega))) ?_
    refine lexQ rfl rfl rfl rfl (fun H hM => (yConv rfl Try.underlying33 Try.underlying3 rfl (IntWalk.i64_in _ (by omega)))) ?_
    refine lexNB rfl rfl rfl rfl (nBuildSlice (vs := [.int _ _]) rfl Try.underlying26 Try.sizeOf3 Try.zeroValue3 rfl rfl rfl rfl) (fun g51 hg51 => ?_)
    -- tail
    refine lexNil (fun Hf hXf hMf hNf => ?_)
    -- e slot 52: builtin append t45 t51 : [26, 26]
    refine seqE rfl rfl (stepApp (c := eInt) (hz2.ext hXf) rfl Try.underlying26 elem_eInt rfl (by omega) rfl rfl rfl (Blk.rd (c := eInt) (l := [cl[k] % 600]) (NF.blk 22 hNf (.head _))) (by simp; omega) (by have := hXf.size; have := hE2.size; omega) ?_)
    intro v3 H4 hz3 g3
    have hx3 := (hx2.ext hXf).grew g3 hxz1.symm
    have hy3 := (hy2.ext hXf).grew g3 hyz2.symm
    have hxz3 := (hxz1.symm.grew (hx2.ext hXf) g3).symm
    have hyz3 := (hyz2.symm.grew (hy2.ext hXf) g3).symm
    have hE3 := g3.ext (hE2.trans hXf) (fun g hg => (hz2.lt g hg).1)
    obtain ⟨X1, x1, rfl, -⟩ := hx3.form
    obtain ⟨Y1, y1, rfl, -⟩ := hy3.form
    obtain ⟨Z1, z1, rfl, -⟩ := hz3.form
    refine seqQ rfl rfl (yAssign (v := .slice _ _ _) rfl rfl) ?_
    refine seqQ rfl rfl (yAssign (v := .slice _ _ _) rfl rfl) ?_
    refine seqQ rfl rfl (yAssign (v := .slice _ _ _) rfl rfl) ?_
    refine seqNil ?_
    refine hF9 _ _ ?_; clear hF9
    refine wpRegion ?_
    refine seqQ rfl rfl (yAdd rfl rfl rfl (by unfold In64; omega)) ?_
    refine seqQ rfl rfl (yMove (v := .int _ _) rfl rfl) ?_
    refine seqNil ?_
    -- end loop
    refine loopEnd (k + 1, _, _, _) (by repeat (first | (with_reducible exact Agree.refl _ _) | refine Agree.upd ?_ rfl | refine Agree.over ?_ rfl)) (by show _ - (k + 1) < _ - k; omega) ⟨rfl, rfl, rfl, rfl, trivial⟩ ⟨by show k + 1 ≤ _; omega, hE3, ?_⟩
    refine ⟨?_, ?_, ?_, hxy2, hxz3, hyz3⟩
    · show Own _ _ _ _ _ ((al.map _).take (k + 1)); rw [← take_map_succ hka]; exact hx3
    · show Own _ _ _ _ _ ((bl.map _).take (k + 1)); rw [← take_map_succ hkb]; exact hy3
    · show Own _ _ _ _ _ ((cl.map _).take (k + 1)); rw [← take_map_succ hkc]; exact hz3
  · skip
    have hk3 : k = 3 := by omega
    subst hk3
    obtain ⟨X, cx, rfl, -, hX, -⟩ := h3.ox.form
    obtain ⟨Y, cy, rfl, -, hY, -⟩ := h3.oy.form
    obtain ⟨Z, cz, rfl, -, hZ, -⟩ := h3.oz.form
    clear h3
    rw [List.take_of_length_le (by simp [la])] at hX
    rw [List.take_of_length_le (by simp [lb])] at hY
    rw [List.take_of_length_le (by simp [lc])] at hZ
    have lX : ((al.map (· % 300)).take 3).length = (al.map (· % 300)).length := by simp [la]
    have lY : ((bl.map (· % 300)).take 3).length = (bl.map (· % 300)).length := by simp [lb]
    have lZ : ((cl.map (· % 600)).take 3).length = (cl.map (· % 600)).length := by simp [lc]
    rw [lX, lY, lZ]
    have l3a : (al.map (· % 300)).length = 3 := by simp [la]
    have l3b : (bl.map (· % 300)).length = 3 := by simp [lb]
    have l3c : (cl.map (· % 600)).length = 3 := by simp [lc]
    have K := leastFacts (okC_small la hwa (.inl rfl)) (okC_small lb hwb (.inl rfl)) (okC_small lc hwc (.inr rfl)) (l3a.trans l3b.symm) (l3b.trans l3c.symm)
    have lj := max_len (l3a.trans l3b.symm)
    generalize al.map (· % 300) = x at *
    generalize bl.map (· % 300) = y at *
    generalize cl.map (· % 600) = z at *
    generalize hj : List.zipWith max x y = j at *
    replace hE := hEE.trans hE
    clear hEE
    refine wpExit ?_
    refine hF5 _ _ ?_; clear hF5
    refine wpSeq fun F11 hF11 => ?_
    refine wpRegion ?_
    refine seqQ rfl rfl (yMove (v := .slice _ _ _) rfl rfl) ?_
    refine seqQ rfl rfl (yMove (v := .slice _ _ _) rfl rfl) ?_
    -- e slot 57: call F19<farandole/vclock.Join> t55 t56
    refine seqE rfl rfl (stepCall rfl Try.call19 rfl ?_)
    refine (join_c X Y cx cy x y H1 hX hY (by omega) (by omega)).mono ?_
    rintro v H60 ⟨hxx, s, rfl, hown⟩
    rw [K.j] at hown ⊢
    replace hown : Own eInt 3 H60 H1.size s j := hown
    obtain ⟨A, ca, rfl, -, hA, -⟩ := hown.form
    clear hown
    have hE := hE.trans hxx
    have hX := hX.ext hxx
    have hY := hY.ext hxx
    have hZ := hZ.ext hxx
    clear hxx
    refine seqQ rfl rfl (yMove (v := .tuple _) rfl rfl) ?_
    refine seqQ rfl rfl (yExtract (v := .slice _ _ _) rfl rfl rfl) ?_
    refine seqQ rfl rfl (yExtract (v := .int _ _) rfl rfl rfl) ?_
    refine seqQ rfl rfl (yAssign (v := _) rfl rfl) ?_
    refine seqQ rfl rfl (yAssign (v := .int _ _) rfl rfl) ?_
    refine seqNil ?_
    refine hF11 _ _ ?_; clear hF11
    refine wpSeq fun F12 hF12 => ?_
    refine wpRegion ?_
    refine seqQ rfl rfl (yMove (v := .slice _ _ _) rfl rfl) ?_
    refine seqQ rfl rfl (yMove (v := .slice _ _ _) rfl rfl) ?_
    -- e slot 63: call F19<farandole/vclock.Join> t61 t62
    refine seqE rfl rfl (stepCall rfl Try.call19 rfl ?_)
    refine (join_c Y X cy cx y x H60 hY hX (by omega) (by omega)).mono ?_
    rintro v H61 ⟨hxx, s, rfl, hown⟩
    rw [K.k] at hown ⊢
    replace hown : Own eInt 3 H61 H60.size s j := hown
    obtain ⟨B, cb, rfl, -, hB, -⟩ := hown.form
    clear hown
    have hE := hE.trans hxx
    have hX := hX.ext hxx
    have hY := hY.ext hxx
    have hZ := hZ.ext hxx
    have hA := hA.ext hxx
    clear hxx
    refine seqQ rfl rfl (yMove (v := .tuple _) rfl rfl) ?_
    refine seqQ rfl rfl (yExtract (v := .slice _ _ _) rfl rfl rfl) ?_
    refine seqQ rfl rfl (yExtract (v := .int _ _) rfl rfl rfl) ?_
    refine seqQ rfl rfl (yAssign (v := _) rfl rfl) ?_
    refine seqQ rfl rfl (yAssign (v := .int _ _) rfl rfl) ?_
    refine seqNil ?_
    refine hF12 _ _ ?_; clear hF12
    refine wpSeq fun F13 hF13 => ?_
    refine wpRegion ?_
    refine seqQ rfl rfl (yMove (v := .slice _ _ _) rfl rfl) ?_
    refine seqQ rfl rfl (yMove (v := .slice _ _ _) rfl rfl) ?_
    -- e slot 69: call F19<farandole/vclock.Join> t67 t68
    refine seqE rfl rfl (stepCall rfl Try.call19 rfl ?_)
    refine (join_c A X ca cx j x H61 hA hX (by omega) (by omega)).mono ?_
    rintro v H62 ⟨hxx, s, rfl, hown⟩
    rw [K.again] at hown ⊢
    replace hown : Own eInt 3 H62 H61.size s j := hown
    obtain ⟨C, cc, rfl, -, hC, -⟩ := hown.form
    clear hown
    have hE := hE.trans hxx
    have hX := hX.ext hxx
    have hY := hY.ext hxx
    have hZ := hZ.ext hxx
    have hA := hA.ext hxx
    have hB := hB.ext hxx
    clear hxx
    refine seqQ rfl rfl (yMove (v := .tuple _) rfl rfl) ?_
    refine seqQ rfl rfl (yExtract (v := .slice _ _ _) rfl rfl rfl) ?_
    refine seqQ rfl rfl (yExtract (v := .int _ _) rfl rfl rfl) ?_
    refine seqQ rfl rfl (yAssign (v := _) rfl rfl) ?_
    refine seqQ rfl rfl (yAssign (v := .int _ _) rfl rfl) ?_
    refine seqNil ?_
    refine hF13 _ _ ?_; clear hF13
    refine wpSeq fun F14 hF14 => ?_
    refine wpRegion ?_
    refine seqQ rfl rfl (yMove (v := .slice _ _ _) rfl rfl) ?_
    refine seqQ rfl rfl (yMove (v := .slice _ _ _) rfl rfl) ?_
    -- e slot 75: call F19<farandole/vclock.Join> t73 t74
    refine seqE rfl rfl (stepCall rfl Try.call19 rfl ?_)
    refine (join_c A Z ca cz j z H62 hA hZ (by omega) (by omega)).mono ?_
    rintro v H63 ⟨hxx, s, rfl, hown⟩
    rw [K.left] at hown ⊢
    replace hown : Own eInt 3 H63 H62.size s (List.zipWith max x (List.zipWith max y z)) := hown
    obtain ⟨D, cd, rfl, -, hD, -⟩ := hown.form
    clear hown
    have hE := hE.trans hxx
    have hX := hX.ext hxx
    have hY := hY.ext hxx
    have hZ := hZ.ext hxx
    have hA := hA.ext hxx
    have hB := hB.ext hxx
    have hC := hC.ext hxx
    clear hxx
    refine seqQ rfl rfl (yMove (v := .tuple _) rfl rfl) ?_
    refine seqQ rfl rfl (yExtract (v := .slice _ _ _) rfl rfl rfl) ?_
    refine seqQ rfl rfl (yExtract (v := .int _ _) rfl rfl rfl) ?_
    refine seqQ rfl rfl (yAssign (v := _) rfl rfl) ?_
    refine seqQ rfl rfl (yAssign (v := .int _ _) rfl rfl) ?_
    refine seqNil ?_
    refine hF14 _ _ ?_; clear hF14
    refine wpSeq fun F15 hF15 => ?_
    refine wpRegion ?_
    refine seqQ rfl rfl (yMove (v := .slice _ _ _) rfl rfl) ?_
    refine seqQ rfl rfl (yMove (v := .slice _ _ _) rfl rfl) ?_
    -- e slot 81: call F19<farandole/vclock.Join> t79 t80
    refine seqE rfl rfl (stepCall rfl Try.call19 rfl ?_)
    refine (join_c Y Z cy cz y z H63 hY hZ (by omega) (by omega)).mono ?_
    rintro v H64 ⟨hxx, s, rfl, hown⟩
    rw [K.yz] at hown ⊢
    replace hown : Own eInt 3 H64 H63.size s (List.zipWith max y z) := hown
    obtain ⟨G, cg, rfl, -, hG, -⟩ := hown.form
    clear hown
    have hE := hE.trans hxx
    have hX := hX.ext hxx
    have hY := hY.ext hxx
    have hZ := hZ.ext hxx
    have hA := hA.ext hxx
    have hB := hB.ext hxx
    have hC := hC.ext hxx
    have hD := hD.ext hxx
    clear hxx
    refine seqQ rfl rfl (yMove (v := .tuple _) rfl rfl) ?_
    refine seqQ rfl rfl (yExtract (v := .slice _ _ _) rfl rfl rfl) ?_
    refine seqQ rfl rfl (yExtract (v := .int _ _) rfl rfl rfl) ?_
    refine seqQ rfl rfl (yAssign (v := _) rfl rfl) ?_
    refine seqQ rfl rfl (yAssign (v := .int _ _) rfl rfl) ?_
    refine seqNil ?_
    refine hF15 _ _ ?_; clear hF15
    refine wpSeq fun F16 hF16 => ?_
    refine wpRegion ?_
    refine seqQ rfl rfl (yMove (v := .slice _ _ _) rfl rfl) ?_
    refine seqQ rfl rfl (yMove (v := .slice _ _ _) rfl rfl) ?_
    -- e slot 87: call F19<farandole/vclock.Join> t85 t86
    refine seqE rfl rfl (stepCall rfl Try.call19 rfl ?_)
    refine (join_c X G cx cg x (List.zipWith max y z) H64 hX hG (by omega) (by rw [max_len (l3b.trans l3c.symm)]; omega)).mono ?_
    rintro v H65 ⟨hxx, s, rfl, hown⟩
    rw [K.right] at hown ⊢
    replace hown : Own eInt 3 H65 H64.size s (List.zipWith max x (List.zipWith max y z)) := hown
    obtain ⟨F, cf, rfl, -, hF, -⟩ := hown.form
    clear hown
    have hE := hE.trans hxx
    have hX := hX.ext hxx
    have hY := hY.ext hxx
    have hZ := hZ.ext hxx
    have hA := hA.ext hxx
    have hB := hB.ext hxx
    have hC := hC.ext hxx
    have hD := hD.ext hxx
    have hG := hG.ext hxx
    clear hxx
    refine seqQ rfl rfl (yMove (v := .tuple _) rfl rfl) ?_
    refine seqQ rfl rfl (yExtract (v := .slice _ _ _) rfl rfl rfl) ?_
    refine seqQ rfl rfl (yExtract (v := .int _ _) rfl rfl rfl) ?_
    refine seqQ rfl rfl (yAssign (v := _) rfl rfl) ?_
    refine seqQ rfl rfl (yAssign (v := .int _ _) rfl rfl) ?_
    refine seqNil ?_
    refine hF16 _ _ ?_; clear hF16
    refine wpSeq fun F17 hF17 => ?_
    refine wpSeq fun F18 hF18 => ?_
    refine wpRegion ?_
    refine seqQ rfl rfl (yMove (v := .int _ _) rfl rfl) ?_
    refine seqQ rfl rfl (yNeq rfl rfl rfl) ?_
    refine seqQ rfl rfl (yMove (v := .bool false) rfl rfl) ?_
    refine seqQ rfl rfl (yMove (v := .int _ _) rfl rfl) ?_
    refine seqQ rfl rfl (yNeq rfl rfl rfl) ?_
    refine seqQ rfl rfl (yPickF (v := .bool _) rfl rfl rfl) ?_
    refine seqQ rfl rfl (yMove (v := .bool false) rfl rfl) ?_
    refine seqQ rfl rfl (yMove (v := .int _ _) rfl rfl) ?_
    refine seqQ rfl rfl (yNeq rfl rfl rfl) ?_
    refine seqQ rfl rfl (yPickF (v := .bool _) rfl rfl rfl) ?_
    refine seqQ rfl rfl (yMove (v := .bool false) rfl rfl) ?_
    refine seqQ rfl rfl (yMove (v := .int _ _) rfl rfl) ?_
    refine seqQ rfl rfl (yNeq rfl rfl rfl) ?_
    refine seqQ rfl rfl (yPickF (v := .bool _) rfl rfl rfl) ?_
    refine seqQ rfl rfl (yMove (v := .bool false) rfl rfl) ?_
    refine seqQ rfl rfl (yMove (v := .int _ _) rfl rfl) ?_
    refine seqQ rfl rfl (yNeq rfl rfl rfl) ?_
    refine seqQ rfl rfl (yPickF (v := .bool _) rfl rfl rfl) ?_
    refine seqQ rfl rfl (yMove (v := .bool false) rfl rfl) ?_
    refine seqQ rfl rfl (yMove (v := .int _ _) rfl rfl) ?_
    refine seqQ rfl rfl (yNeq rfl rfl rfl) ?_
    refine seqQ rfl rfl (yPickF (v := .bool _) rfl rfl rfl) ?_
    refine seqNil ?_
    refine hF18 _ _ ?_; clear hF18
    -- if t111
    refine wpF rfl ?_
    generalize hLL : List.zipWith max x (List.zipWith max y z) = ll at *
    refine wpSkip ?_
    refine hF17 _ _ ?_; clear hF17
    refine wpSeq fun F19 hF19 => ?_
    refine wpSeq fun F20 hF20 => ?_
    refine wpRegion ?_
    refine seqQ rfl rfl (yMove (v := .slice _ _ _) rfl rfl) ?_
    refine seqQ rfl rfl (yMove (v := .slice _ _ _) rfl rfl) ?_
    -- e slot 114: call F17<farandole/vclock.Equal> t112 t113
    refine seqE rfl rfl (stepCall rfl Try.call17 rfl ?_)
    refine (equal_c A B ca cb j j H65 hA hB (by omega) (by omega)).mono ?_
    rintro v _ ⟨rfl, e⟩; obtain rfl := e.symm; clear e
    rw [decide_eq_true (rfl : j = j)]
    refine seqQ rfl rfl (yNot rfl rfl) ?_
    refine seqQ rfl rfl (yMove (v := .bool false) rfl rfl) ?_
    refine seqQ rfl rfl (yMove (v := .slice _ _ _) rfl rfl) ?_
    refine seqQ rfl rfl (yMove (v := .slice _ _ _) rfl rfl) ?_
    -- e slot 119: call F17<farandole/vclock.Equal> t117 t118
    refine seqE rfl rfl (stepCall rfl Try.call17 rfl ?_)
    refine (equal_c C A cc ca j j H65 hC hA (by omega) (by omega)).mono ?_
    rintro v _ ⟨rfl, e⟩; obtain rfl := e.symm; clear e
    rw [decide_eq_true (rfl : j = j)]
    refine seqQ rfl rfl (yNot rfl rfl) ?_
    refine seqQ rfl rfl (yPickF (v := .bool _) rfl rfl rfl) ?_
    refine seqQ rfl rfl (yMove (v := .bool false) rfl rfl) ?_
    refine seqQ rfl rfl (yMove (v := .slice _ _ _) rfl rfl) ?_
    refine seqQ rfl rfl (yMove (v := .slice _ _ _) rfl rfl) ?_
    -- e slot 125: call F17<farandole/vclock.Equal> t123 t124
    refine seqE rfl rfl (stepCall rfl Try.call17 rfl ?_)
    have lll : ll.length = 3 := by rw [← hLL, max_len (by rw [max_len (l3b.trans l3c.symm)]; omega)]; omega
    refine (equal_c D F cd cf ll ll H65 hD hF (by omega) (by omega)).mono ?_
    rintro v _ ⟨rfl, e⟩; obtain rfl := e.symm; clear e
    rw [decide_eq_true (rfl : ll = ll)]
    refine seqQ rfl rfl (yNot rfl rfl) ?_
    refine seqQ rfl rfl (yPickF (v := .bool _) rfl rfl rfl) ?_
    refine seqQ rfl rfl (yMove (v := .bool false) rfl rfl) ?_
    refine seqQ rfl rfl (yMove (v := .slice _ _ _) rfl rfl) ?_
    refine seqQ rfl rfl (yMove (v := .slice _ _ _) rfl rfl) ?_
    -- e slot 131: call F13<farandole/vclock.Before> t129 t130
    refine seqE rfl rfl (stepCall rfl Try.call13 rfl ?_)
    refine (before_c A X ca cx j x H65 hA hX (by omega) (by omega)).mono ?_
    rintro v _ ⟨rfl, e⟩; obtain rfl := e.symm; clear e
    rw [K.bx]
    refine seqQ rfl rfl (yPickF (v := .bool _) rfl rfl rfl) ?_
    refine seqQ rfl rfl (yMove (v := .bool false) rfl rfl) ?_
    refine seqQ rfl rfl (yMove (v := .slice _ _ _) rfl rfl) ?_
    refine seqQ rfl rfl (yMove (v := .slice _ _ _) rfl rfl) ?_
    -- e slot 136: call F13<farandole/vclock.Before> t134 t135
    refine seqE rfl rfl (stepCall rfl Try.call13 rfl ?_)
    refine (before_c A Y ca cy j y H65 hA hY (by omega) (by omega)).mono ?_
    rintro v _ ⟨rfl, e⟩; obtain rfl := e.symm; clear e
    rw [K.b_y]
    refine seqQ rfl rfl (yPickF (v := .bool _) rfl rfl rfl) ?_
    refine seqQ rfl rfl (yMove (v := .bool false) rfl rfl) ?_
    refine seqQ rfl rfl (yMove (v := .slice _ _ _) rfl rfl) ?_
    refine seqQ rfl rfl (yMove (v := .slice _ _ _) rfl rfl) ?_
    -- e slot 141: call F15<farandole/vclock.Concurrent> t139 t140
    refine seqE rfl rfl (stepCall rfl Try.call15 rfl ?_)
    refine (concurrent_c A X ca cx j x H65 hA hX (by omega) (by omega)).mono ?_
    rintro v _ ⟨rfl, e⟩; obtain rfl := e.symm; clear e
    rw [K.cx]
    refine seqQ rfl rfl (yPickF (v := .bool _) rfl rfl rfl) ?_
    refine seqQ rfl rfl (yMove (v := .bool false) rfl rfl) ?_
    refine seqQ rfl rfl (yMove (v := .slice _ _ _) rfl rfl) ?_
    refine seqQ rfl rfl (yMove (v := .slice _ _ _) rfl rfl) ?_
    -- e slot 146: call F15<farandole/vclock.Concurrent> t144 t145
    refine seqE rfl rfl (stepCall rfl Try.call15 rfl ?_)
    refine (concurrent_c A Y ca cy j y H65 hA hY (by omega) (by omega)).mono ?_
    rintro v _ ⟨rfl, e⟩; obtain rfl := e.symm; clear e
    rw [K.cy]
    refine seqQ rfl rfl (yPickF (v := .bool _) rfl rfl rfl) ?_
    refine seqNil ?_
    refine hF20 _ _ ?_; clear hF20
    -- if t147
    refine wpF rfl ?_
    refine wpSkip ?_
    refine hF19 _ _ ?_; clear hF19
    refine wpSeq fun F21 hF21 => ?_
    refine wpRegion ?_
    refine seqQ rfl rfl (yMove (v := .slice _ _ _) rfl rfl) ?_
    refine seqQ rfl rfl (yMove (v := .slice _ _ _) rfl rfl) ?_
    -- e slot 150: call F13<farandole/vclock.Before> t148 t149
    refine seqE rfl rfl (stepCall rfl Try.call13 rfl ?_)
    refine (before_c X Z cx cz x z H65 hX hZ (by omega) (by omega)).mono ?_
    rintro v _ ⟨rfl, e⟩; obtain rfl := e.symm; clear e
    -- guard t151
    refine seqGB rfl rfl rfl rfl (fun h1 => ?_) (fun h1 => ?_)
    · skip
      refine seqU rfl rfl ?_
      refine seqU rfl rfl ?_
      refine seqU rfl rfl ?_
      refine seqQ rfl rfl (yPickT (v := .bool _) rfl rfl rfl) ?_
      refine seqQ rfl rfl (yMove (v := .bool true) rfl rfl) ?_
      refine seqQ rfl rfl (yMove (v := .slice _ _ _) rfl rfl) ?_
      refine seqQ rfl rfl (yMove (v := .slice _ _ _) rfl rfl) ?_
      -- e slot 159: call F13<farandole/vclock.Before> t157 t158
      refine seqE rfl rfl (stepCall rfl Try.call13 rfl ?_)
      refine (before_c Y Z cy cz y z H65 hY hZ (by omega) (by omega)).mono ?_
      rintro v _ ⟨rfl, e⟩; obtain rfl := e.symm; clear e
      -- guard t160
      refine seqGB rfl rfl rfl rfl (fun h3 => ?_) (fun h3 => ?_)
      · skip
        refine seqU rfl rfl ?_
        refine seqU rfl rfl ?_
        refine seqU rfl rfl ?_
        refine seqQ rfl rfl (yPickT (v := .bool _) rfl rfl rfl) ?_
        refine seqQ rfl rfl (yPickT (v := .bool _) rfl rfl rfl) ?_
        refine seqQ rfl rfl (yAssign (v := .bool _) rfl rfl) ?_
        refine seqNil ?_
        refine hF21 _ _ ?_; clear hF21
        refine wpSeq fun F22 hF22 => ?_
        refine wpRegion ?_
        refine seqQ rfl rfl (yMove (v := .bool _) rfl rfl) ?_
        refine seqQ rfl rfl (yNot rfl rfl) ?_
        refine seqQ rfl rfl (yMove (v := .bool false) rfl rfl) ?_
        refine seqQ rfl rfl (yMove (v := .slice _ _ _) rfl rfl) ?_
        refine seqQ rfl rfl (yMove (v := .slice _ _ _) rfl rfl) ?_
        -- e slot 171: call F13<farandole/vclock.Before> t169 t170
        refine seqE rfl rfl (stepCall rfl Try.call13 rfl ?_)
        refine (before_c A Z ca cz j z H65 hA hZ (by omega) (by omega)).mono ?_
        rintro v _ ⟨rfl, e⟩; obtain rfl := e.symm; clear e
        refine seqQ rfl rfl (yPickF (v := .bool _) rfl rfl rfl) ?_
        -- guard t173
        refine seqGB rfl rfl rfl rfl (fun q1 => ?_) (fun q1 => ?_)
        · skip
          refine seqU rfl rfl ?_
          refine seqU rfl rfl ?_
          refine seqU rfl rfl ?_
          refine seqQ rfl rfl (yPickT (v := .bool _) rfl rfl rfl) ?_
          refine seqQ rfl rfl (yAssign (v := .bool _) rfl rfl) ?_
          refine seqNil ?_
          refine hF22 _ _ ?_; clear hF22
          -- ret
          refine wpRet (fin1 (v := .bool _) rfl rfl ?_)
          exact ⟨rfl, hE⟩
        · skip
          refine seqQ rfl rfl (yMove (v := .slice _ _ _) rfl rfl) ?_
          refine seqQ rfl rfl (yMove (v := .slice _ _ _) rfl rfl) ?_
          -- e slot 176: call F17<farandole/vclock.Equal> t174 t175
          refine seqE rfl rfl (stepCall rfl Try.call17 rfl ?_)
          refine (equal_c A Z ca cz j z H65 hA hZ (by omega) (by omega)).mono ?_
          rintro v _ ⟨rfl, e⟩; obtain rfl := e.symm; clear e
          rw [decide_eq_true (K.le (.inl h1) (.inl h3) (by simpa using q1))]
          refine seqQ rfl rfl (yPickF (v := .bool _) rfl rfl rfl) ?_
          refine seqQ rfl rfl (yAssign (v := .bool _) rfl rfl) ?_
          refine seqNil ?_
          refine hF22 _ _ ?_; clear hF22
          -- ret
          refine wpRet (fin1 (v := .bool _) rfl rfl ?_)
          exact ⟨rfl, hE⟩
      · skip
        refine seqQ rfl rfl (yMove (v := .slice _ _ _) rfl rfl) ?_
        refine seqQ rfl rfl (yMove (v := .slice _ _ _) rfl rfl) ?_
        -- e slot 163: call F17<farandole/vclock.Equal> t161 t162
        refine seqE rfl rfl (stepCall rfl Try.call17 rfl ?_)
        refine (equal_c Y Z cy cz y z H65 hY hZ (by omega) (by omega)).mono ?_
        rintro v _ ⟨rfl, e⟩; obtain rfl := e.symm; clear e
        by_cases h4 : y = z
        · rw [decide_eq_true h4]
          refine seqQ rfl rfl (yPickF (v := .bool _) rfl rfl rfl) ?_
          refine seqQ rfl rfl (yPickT (v := .bool _) rfl rfl rfl) ?_
          refine seqQ rfl rfl (yAssign (v := .bool _) rfl rfl) ?_
          refine seqNil ?_
          refine hF21 _ _ ?_; clear hF21
          refine wpSeq fun F23 hF23 => ?_
          refine wpRegion ?_
          refine seqQ rfl rfl (yMove (v := .bool _) rfl rfl) ?_
          refine seqQ rfl rfl (yNot rfl rfl) ?_
          refine seqQ rfl rfl (yMove (v := .bool false) rfl rfl) ?_
          refine seqQ rfl rfl (yMove (v := .slice _ _ _) rfl rfl) ?_
          refine seqQ rfl rfl (yMove (v := .slice _ _ _) rfl rfl) ?_
          -- e slot 171: call F13<farandole/vclock.Before> t169 t170
          refine seqE rfl rfl (stepCall rfl Try.call13 rfl ?_)
          refine (before_c A Z ca cz j z H65 hA hZ (by omega) (by omega)).mono ?_
          rintro v _ ⟨rfl, e⟩; obtain rfl := e.symm; clear e
          refine seqQ rfl rfl (yPickF (v := .bool _) rfl rfl rfl) ?_
          -- guard t173
          refine seqGB rfl rfl rfl rfl (fun q1 => ?_) (fun q1 => ?_)
          · skip
            refine seqU rfl rfl ?_
            refine seqU rfl rfl ?_
            refine seqU rfl rfl ?_
            refine seqQ rfl rfl (yPickT (v := .bool _) rfl rfl rfl) ?_
            refine seqQ rfl rfl (yAssign (v := .bool _) rfl rfl) ?_
            refine seqNil ?_
            refine hF23 _ _ ?_; clear hF23
            -- ret
            refine wpRet (fin1 (v := .bool _) rfl rfl ?_)
            exact ⟨rfl, hE⟩
          · skip
            refine seqQ rfl rfl (yMove (v := .slice _ _ _) rfl rfl) ?_
            refine seqQ rfl rfl (yMove (v := .slice _ _ _) rfl rfl) ?_
            -- e slot 176: call F17<farandole/vclock.Equal> t174 t175
            refine seqE rfl rfl (stepCall rfl Try.call17 rfl ?_)
            refine (equal_c A Z ca cz j z H65 hA hZ (by omega) (by omega)).mono ?_
            rintro v _ ⟨rfl, e⟩; obtain rfl := e.symm; clear e
            rw [decide_eq_true (K.le (.inl h1) (.inr h4) (by simpa using q1))]
            refine seqQ rfl rfl (yPickF (v := .bool _) rfl rfl rfl) ?_
            refine seqQ rfl rfl (yAssign (v := .bool _) rfl rfl) ?_
            refine seqNil ?_
            refine hF23 _ _ ?_; clear hF23
            -- ret
            refine wpRet (fin1 (v := .bool _) rfl rfl ?_)
            exact ⟨rfl, hE⟩
        · rw [decide_eq_false h4]
          refine seqQ rfl rfl (yPickF (v := .bool _) rfl rfl rfl) ?_
          refine seqQ rfl rfl (yPickT (v := .bool _) rfl rfl rfl) ?_
          refine seqQ rfl rfl (yAssign (v := .bool _) rfl rfl) ?_
          refine seqNil ?_
          refine hF21 _ _ ?_; clear hF21
          refine wpSeq fun F24 hF24 => ?_
          refine wpRegion ?_
          refine seqQ rfl rfl (yMove (v := .bool _) rfl rfl) ?_
          refine seqQ rfl rfl (yNot rfl rfl) ?_
          refine seqQ rfl rfl (yMove (v := .bool true) rfl rfl) ?_
          refine seqU rfl rfl ?_
          refine seqU rfl rfl ?_
          refine seqU rfl rfl ?_
          refine seqQ rfl rfl (yPickT (v := .bool _) rfl rfl rfl) ?_
          refine seqQ rfl rfl (yMove (v := .bool true) rfl rfl) ?_
          refine seqU rfl rfl ?_
          refine seqU rfl rfl ?_
          refine seqU rfl rfl ?_
          refine seqQ rfl rfl (yPickT (v := .bool _) rfl rfl rfl) ?_
          refine seqQ rfl rfl (yAssign (v := .bool _) rfl rfl) ?_
          refine seqNil ?_
          refine hF24 _ _ ?_; clear hF24
          -- ret
          refine wpRet (fin1 (v := .bool _) rfl rfl ?_)
          exact ⟨rfl, hE⟩
    · skip
      refine seqQ rfl rfl (yMove (v := .slice _ _ _) rfl rfl) ?_
      refine seqQ rfl rfl (yMove (v := .slice _ _ _) rfl rfl) ?_
      -- e slot 154: call F17<farandole/vclock.Equal> t152 t153
      refine seqE rfl rfl (stepCall rfl Try.call17 rfl ?_)
      refine (equal_c X Z cx cz x z H65 hX hZ (by omega) (by omega)).mono ?_
      rintro v _ ⟨rfl, e⟩; obtain rfl := e.symm; clear e
      by_cases h2 : x = z
      · rw [decide_eq_true h2]
        refine seqQ rfl rfl (yPickF (v := .bool _) rfl rfl rfl) ?_
        refine seqQ rfl rfl (yMove (v := .bool true) rfl rfl) ?_
        refine seqQ rfl rfl (yMove (v := .slice _ _ _) rfl rfl) ?_
        refine seqQ rfl rfl (yMove (v := .slice _ _ _) rfl rfl) ?_
        -- e slot 159: call F13<farandole/vclock.Before> t157 t158
        refine seqE rfl rfl (stepCall rfl Try.call13 rfl ?_)
        refine (before_c Y Z cy cz y z H65 hY hZ (by omega) (by omega)).mono ?_
        rintro v _ ⟨rfl, e⟩; obtain rfl := e.symm; clear e
        -- guard t160
        refine seqGB rfl rfl rfl rfl (fun h3 => ?_) (fun h3 => ?_)
        · skip
          refine seqU rfl rfl ?_
          refine seqU rfl rfl ?_
          refine seqU rfl rfl ?_
          refine seqQ rfl rfl (yPickT (v := .bool _) rfl rfl rfl) ?_
          refine seqQ rfl rfl (yPickT (v := .bool _) rfl rfl rfl) ?_
          refine seqQ rfl rfl (yAssign (v := .bool _) rfl rfl) ?_
          refine seqNil ?_
          refine hF21 _ _ ?_; clear hF21
          refine wpSeq fun F25 hF25 => ?_
          refine wpRegion ?_
          refine seqQ rfl rfl (yMove (v := .bool _) rfl rfl) ?_
          refine seqQ rfl rfl (yNot rfl rfl) ?_
          refine seqQ rfl rfl (yMove (v := .bool false) rfl rfl) ?_
          refine seqQ rfl rfl (yMove (v := .slice _ _ _) rfl rfl) ?_
          refine seqQ rfl rfl (yMove (v := .slice _ _ _) rfl rfl) ?_
          -- e slot 171: call F13<farandole/vclock.Before> t169 t170
          refine seqE rfl rfl (stepCall rfl Try.call13 rfl ?_)
          refine (before_c A Z ca cz j z H65 hA hZ (by omega) (by omega)).mono ?_
          rintro v _ ⟨rfl, e⟩; obtain rfl := e.symm; clear e
          refine seqQ rfl rfl (yPickF (v := .bool _) rfl rfl rfl) ?_
          -- guard t173
          refine seqGB rfl rfl rfl rfl (fun q1 => ?_) (fun q1 => ?_)
          · skip
            refine seqU rfl rfl ?_
            refine seqU rfl rfl ?_
            refine seqU rfl rfl ?_
            refine seqQ rfl rfl (yPickT (v := .bool _) rfl rfl rfl) ?_
            refine seqQ rfl rfl (yAssign (v := .bool _) rfl rfl) ?_
            refine seqNil ?_
            refine hF25 _ _ ?_; clear hF25
            -- ret
            refine wpRet (fin1 (v := .bool _) rfl rfl ?_)
            exact ⟨rfl, hE⟩
          · skip
            refine seqQ rfl rfl (yMove (v := .slice _ _ _) rfl rfl) ?_
            refine seqQ rfl rfl (yMove (v := .slice _ _ _) rfl rfl) ?_
            -- e slot 176: call F17<farandole/vclock.Equal> t174 t175
            refine seqE rfl rfl (stepCall rfl Try.call17 rfl ?_)
            refine (equal_c A Z ca cz j z H65 hA hZ (by omega) (by omega)).mono ?_
            rintro v _ ⟨rfl, e⟩; obtain rfl := e.symm; clear e
            rw [decide_eq_true (K.le (.inr h2) (.inl h3) (by simpa using q1))]
            refine seqQ rfl rfl (yPickF (v := .bool _) rfl rfl rfl) ?_
            refine seqQ rfl rfl (yAssign (v := .bool _) rfl rfl) ?_
            refine seqNil ?_
            refine hF25 _ _ ?_; clear hF25
            -- ret
            refine wpRet (fin1 (v := .bool _) rfl rfl ?_)
            exact ⟨rfl, hE⟩
        · skip
          refine seqQ rfl rfl (yMove (v := .slice _ _ _) rfl rfl) ?_
          refine seqQ rfl rfl (yMove (v := .slice _ _ _) rfl rfl) ?_
          -- e slot 163: call F17<farandole/vclock.Equal> t161 t162
          refine seqE rfl rfl (stepCall rfl Try.call17 rfl ?_)
          refine (equal_c Y Z cy cz y z H65 hY hZ (by omega) (by omega)).mono ?_
          rintro v _ ⟨rfl, e⟩; obtain rfl := e.symm; clear e
          by_cases h4 : y = z
          · rw [decide_eq_true h4]
            refine seqQ rfl rfl (yPickF (v := .bool _) rfl rfl rfl) ?_
            refine seqQ rfl rfl (yPickT (v := .bool _) rfl rfl rfl) ?_
            refine seqQ rfl rfl (yAssign (v := .bool _) rfl rfl) ?_
            refine seqNil ?_
            refine hF21 _ _ ?_; clear hF21
            refine wpSeq fun F26 hF26 => ?_
            refine wpRegion ?_
            refine seqQ rfl rfl (yMove (v := .bool _) rfl rfl) ?_
            refine seqQ rfl rfl (yNot rfl rfl) ?_
            refine seqQ rfl rfl (yMove (v := .bool false) rfl rfl) ?_
            refine seqQ rfl rfl (yMove (v := .slice _ _ _) rfl rfl) ?_
            refine seqQ rfl rfl (yMove (v := .slice _ _ _) rfl rfl) ?_
            -- e slot 171: call F13<farandole/vclock.Before> t169 t170
            refine seqE rfl rfl (stepCall rfl Try.call13 rfl ?_)
            refine (before_c A Z ca cz j z H65 hA hZ (by omega) (by omega)).mono ?_
            rintro v _ ⟨rfl, e⟩; obtain rfl := e.symm; clear e
            refine seqQ rfl rfl (yPickF (v := .bool _) rfl rfl rfl) ?_
            -- guard t173
            refine seqGB rfl rfl rfl rfl (fun q1 => ?_) (fun q1 => ?_)
            · skip
              refine seqU rfl rfl ?_
              refine seqU rfl rfl ?_
              refine seqU rfl rfl ?_
              refine seqQ rfl rfl (yPickT (v := .bool _) rfl rfl rfl) ?_
              refine seqQ rfl rfl (yAssign (v := .bool _) rfl rfl) ?_
              refine seqNil ?_
              refine hF26 _ _ ?_; clear hF26
              -- ret
              refine wpRet (fin1 (v := .bool _) rfl rfl ?_)
              exact ⟨rfl, hE⟩
            · skip
              refine seqQ rfl rfl (yMove (v := .slice _ _ _) rfl rfl) ?_
              refine seqQ rfl rfl (yMove (v := .slice _ _ _) rfl rfl) ?_
              -- e slot 176: call F17<farandole/vclock.Equal> t174 t175
              refine seqE rfl rfl (stepCall rfl Try.call17 rfl ?_)
              refine (equal_c A Z ca cz j z H65 hA hZ (by omega) (by omega)).mono ?_
              rintro v _ ⟨rfl, e⟩; obtain rfl := e.symm; clear e
              rw [decide_eq_true (K.le (.inr h2) (.inr h4) (by simpa using q1))]
              refine seqQ rfl rfl (yPickF (v := .bool _) rfl rfl rfl) ?_
              refine seqQ rfl rfl (yAssign (v := .bool _) rfl rfl) ?_
              refine seqNil ?_
              refine hF26 _ _ ?_; clear hF26
              -- ret
              refine wpRet (fin1 (v := .bool _) rfl rfl ?_)
              exact ⟨rfl, hE⟩
          · rw [decide_eq_false h4]
            refine seqQ rfl rfl (yPickF (v := .bool _) rfl rfl rfl) ?_
            refine seqQ rfl rfl (yPickT (v := .bool _) rfl rfl rfl) ?_
            refine seqQ rfl rfl (yAssign (v := .bool _) rfl rfl) ?_
            refine seqNil ?_
            refine hF21 _ _ ?_; clear hF21
            refine wpSeq fun F27 hF27 => ?_
            refine wpRegion ?_
            refine seqQ rfl rfl (yMove (v := .bool _) rfl rfl) ?_
            refine seqQ rfl rfl (yNot rfl rfl) ?_
            refine seqQ rfl rfl (yMove (v := .bool true) rfl rfl) ?_
            refine seqU rfl rfl ?_
            refine seqU rfl rfl ?_
            refine seqU rfl rfl ?_
            refine seqQ rfl rfl (yPickT (v := .bool _) rfl rfl rfl) ?_
            refine seqQ rfl rfl (yMove (v := .bool true) rfl rfl) ?_
            refine seqU rfl rfl ?_
            refine seqU rfl rfl ?_
            refine seqU rfl rfl ?_
            refine seqQ rfl rfl (yPickT (v := .bool _) rfl rfl rfl) ?_
            refine seqQ rfl rfl (yAssign (v := .bool _) rfl rfl) ?_
            refine seqNil ?_
            refine hF27 _ _ ?_; clear hF27
            -- ret
            refine wpRet (fin1 (v := .bool _) rfl rfl ?_)
            exact ⟨rfl, hE⟩
      · rw [decide_eq_false h2]
        refine seqQ rfl rfl (yPickF (v := .bool _) rfl rfl rfl) ?_
        refine seqQ rfl rfl (yMove (v := .bool false) rfl rfl) ?_
        refine seqU rfl rfl ?_
        refine seqU rfl rfl ?_
        refine seqU rfl rfl ?_
        refine seqU rfl rfl ?_
        refine seqU rfl rfl ?_
        refine seqU rfl rfl ?_
        refine seqU rfl rfl ?_
        refine seqU rfl rfl ?_
        refine seqQ rfl rfl (yPickF (v := .bool _) rfl rfl rfl) ?_
        refine seqQ rfl rfl (yAssign (v := .bool _) rfl rfl) ?_
        refine seqNil ?_
        refine hF21 _ _ ?_; clear hF21
        refine wpSeq fun F28 hF28 => ?_
        refine wpRegion ?_
        refine seqQ rfl rfl (yMove (v := .bool _) rfl rfl) ?_
        refine seqQ rfl rfl (yNot rfl rfl) ?_
        -- guard t168
        refine seqQ rfl rfl (yMove (v := .bool true) rfl rfl) ?_
        refine seqU rfl rfl ?_
        refine seqU rfl rfl ?_
        refine seqU rfl rfl ?_
        refine seqQ rfl rfl (yPickT (v := .bool _) rfl rfl rfl) ?_
        refine seqQ rfl rfl (yMove (v := .bool true) rfl rfl) ?_
        refine seqU rfl rfl ?_
        refine seqU rfl rfl ?_
        refine seqU rfl rfl ?_
        refine seqQ rfl rfl (yPickT (v := .bool _) rfl rfl rfl) ?_
        refine seqQ rfl rfl (yAssign (v := .bool _) rfl rfl) ?_
        refine seqNil ?_
        refine hF28 _ _ ?_; clear hF28
        -- ret
        refine wpRet (fin1 (v := .bool _) rfl rfl ?_)
        exact ⟨rfl, hE⟩
end Go.Proofs.Ytomejdempmbbmaa
