/- The walk over VclockOrder. -/
import Derived.Test.YtomejdempmbbmaaV3
namespace Go.Proofs.Ytomejdempmbbmaa
open Go.RowKit

theorem leB_refl : ∀ a, leB a a = true
  | [] => rfl
  | x :: a => by simp [leB, leB_refl a]
theorem leB_antisymm : ∀ (a b : List Int), a.length = b.length → leB a b = true → leB b a = true → a = b
  | [], [], _, _, _ => rfl
  | x :: a, y :: b, h, h1, h2 => by
    simp only [leB, Bool.and_eq_true, decide_eq_true_iff] at h1 h2
    rw [leB_antisymm a b (by simpa using h) h1.2 h2.2, Int.le_antisymm h1.1 h2.1]
  | [], _ :: _, h, _, _ => by simp at h
  | _ :: _, [], h, _, _ => by simp at h
theorem leB_trans : ∀ (a b c : List Int), a.length = b.length → b.length = c.length → leB a b = true → leB b c = true → leB a c = true
  | [], _, _, _, _, _, _ => by simp [leB]
  | x :: a, y :: b, z :: c, h, h', h1, h2 => by
    simp only [leB, Bool.and_eq_true, decide_eq_true_iff] at h1 h2 ⊢
    exact ⟨by omega, leB_trans a b c (by simpa using h) (by simpa using h') h1.2 h2.2⟩
  | _ :: _, [], _, h, _, _, _ => by simp at h
  | _ :: _, _ :: _, [], _, h, _, _ => by simp at h
theorem beforeB_irrefl (a : List Int) : beforeB a a = false := by simp [beforeB]
theorem concB_irrefl (a : List Int) : concB a a = false := by simp [concB, leB_refl]
theorem kinds_one {x y : List Int} (h : x.length = y.length) : ([decide (x = y), beforeB x y, beforeB y x, concB x y].count true) = 1 := by
  by_cases e : x = y
  · subst e
    simp [beforeB, concB, leB_refl]
  · have e' : ¬ y = x := fun h => e h.symm
    cases h1 : leB x y <;> cases h2 : leB y x
    · simp [beforeB, concB, h1, h2, h, e, e']
    · simp [beforeB, concB, h1, h2, h, e, e']
    · simp [beforeB, concB, h1, h2, h, e, e']
    · exact absurd (leB_antisymm x y h h1 h2) e
theorem beforeB_trans {x y z : List Int} (h : beforeB x y = true) (k : beforeB y z = true) : beforeB x z = true := by
  simp only [beforeB, Bool.and_eq_true, decide_eq_true_iff, Bool.not_eq_true', decide_eq_false_iff_not] at h k ⊢
  obtain ⟨⟨h1, h2⟩, h3⟩ := h
  obtain ⟨⟨k1, k2⟩, k3⟩ := k
  refine ⟨⟨h1.trans k1, fun e => ?_⟩, leB_trans _ _ _ h1 k1 h3 k3⟩
  subst e
  exact h2 (leB_antisymm _ _ h1 h3 k3)

theorem take_map_succ {l : List Int} {k : Nat} {f : Int → Int} (h : k < l.length) : (l.map f).take k ++ [f l[k]] = (l.map f).take (k + 1) := by
  rw [take_next (by simpa using h)]; simp
theorem count_take {l : List Bool} {k : Nat} (h : k < l.length) : ((l.take (k + 1)).count true : Int) = (l.take k).count true + if l[k] = true then 1 else 0 := by
  rw [take_next h, List.count_append]
  cases l[k] <;> simp
/-- Three slices of the call's own, each with its own block. -/
structure Three (H : Heap) (base : Nat) (x y z : Value) (a b c : List Int) : Prop where
  ox : Own eInt 3 H base x a
  oy : Own eInt 3 H base y b
  oz : Own eInt 3 H base z c
  xy : Apart x y
  xz : Apart x z
  yz : Apart y z



set_option maxHeartbeats 1000000 in
theorem order_walk (al bl cl : List Int) (H : Heap) (la : al.length = 4) (lb : bl.length = 4) (lc : cl.length = 4) (hwa : ∀ z ∈ al, 0 ≤ z ∧ z ≤ 255) (hwb : ∀ z ∈ bl, 0 ≤ z ∧ z ≤ 255) (hwc : ∀ z ∈ cl, 0 ≤ z ∧ z ≤ 255) :
    CallsH Try.prog 4 [.agg (al.map (Value.int .u8)).toArray, .agg (bl.map (Value.int .u8)).toArray, .agg (cl.map (Value.int .u8)).toArray] H fun v H' => v = .bool true ∧ Ext H H' := by
  refine callsH_of Try.func4 rfl Try.ntmps4 (Nat.le_of_ble_eq_true rfl) ?_
  refine wpSeq fun F1 hF1 => ?_
  refine wpRegion ?_
  refine seqN rfl rfl (nBoxA rfl rfl) (fun g3 H3 hx3 hB3 hg3 hl3 => ?_)
  refine seqN rfl rfl (nBoxA rfl rfl) (fun g4 H4 hx4 hB4 hg4 hl4 => ?_)
  refine seqN rfl rfl (nBoxA rfl rfl) (fun g5 H5 hx5 hB5 hg5 hl5 => ?_)
  refine seqQ rfl rfl (yAssign (v := .bool _) rfl rfl) ?_
  refine seqNil ?_
  refine hF1 _ _ ?_; clear hF1
  refine wpSeq fun F2 hF2 => ?_
  refine wpSeq fun F3 hF3 => ?_
  refine wpRegion ?_
  -- e slot 14: call F9<farandole/farandolelaw07.awake> 
  refine seqE rfl rfl (stepCall rfl Try.call9 rfl ?_)
  refine (awake_c _).mono ?_
  rintro v H0 ⟨rfl, hx0⟩
  have hBa := ((hB3.ext hx4).ext hx5).ext hx0
  have hBb := (hB4.ext hx5).ext hx0
  have hBc := hB5.ext hx0
  have hEE := ((hx3.trans hx4).trans hx5).trans hx0
  refine seqQ rfl rfl (yNot rfl rfl) ?_
  refine seqNil ?_
  refine hF3 _ _ ?_; clear hF3
  -- if t15
  refine wpF rfl ?_
  refine wpSkip ?_
  refine hF2 _ _ ?_; clear hF2
  refine wpSeq fun F4 hF4 => ?_
  refine wpRegion ?_
  refine seqQ rfl rfl (yAssign (v := .slice _ _ _) rfl rfl) ?_
  refine seqQ rfl rfl (yAssign (v := .slice _ _ _) rfl rfl) ?_
  refine seqQ rfl rfl (yAssign (v := .slice _ _ _) rfl rfl) ?_
  refine seqNil ?_
  refine hF4 _ _ ?_; clear hF4
  refine wpSeq fun F5 hF5 => ?_
  refine wpSeq fun F6 hF6 => ?_
  refine wpRegion ?_
  refine seqQ rfl rfl (yMove (v := .int _ _) rfl rfl) ?_
  refine seqNil ?_
  refine hF6 _ _ ?_; clear hF6
  -- loop
  refine wpBlock ?_
  refine wpLoopS [7, 8, 9, 10, 16, 17, 18, 19, 20, 21, 22, 23, 24, 25, 26, 27, 28, 29, 30, 31, 32, 33, 34, 35, 36, 37, 38, 39, 40, 41, 42, 43] (fun x : Nat × Value × Value × Value => [(7, x.2.1), (8, x.2.2.1), (9, x.2.2.2), (16, .int .i64 x.1)]) (fun x H' => x.1 ≤ 4 ∧ Ext H0 H' ∧ Three H' H0.size x.2.1 x.2.2.1 x.2.2.2 ((al.map (· % 4)).take x.1) ((bl.map (· % 4)).take x.1) ((cl.map (· % 4)).take x.1)) (fun x => 4 - x.1) (0, .slice none 0 0, .slice none 0 0, .slice none 0 0) ⟨rfl, rfl, rfl, rfl, trivial⟩ ⟨by decide, Ext.refl _, Own.nil _ _, Own.nil _ _, Own.nil _ _, Apart.nil _ _ _, Apart.nil _ _ _, Apart.nil _ _ _⟩ ?_
  rintro ⟨k, vx, vy, vz⟩ J H1 ⟨hk, hE, h3⟩
  dsimp only at hk hE h3 ⊢
  refine wpSeq fun F7 hF7 => ?_
  refine wpRegion ?_
  refine seqQ rfl rfl (yLss rfl rfl rfl) ?_
  refine seqNil ?_
  refine hF7 _ _ ?_; clear hF7
  refine wpSeq fun F8 hF8 => ?_
  -- if t17
  refine wpIf rfl (fun hlt => ?_) (fun hlt => ?_)
  · skip
    have hka : k < al.length := by omega
    have hkb : k < bl.length := by omega
    have hkc : k < cl.length := by omega
    obtain ⟨hx0, hy0, hz0, hxy, hxz, hyz⟩ := h3
    have ha0 := hwa al[k] (List.getElem_mem hka)
    have hb0 := hwb bl[k] (List.getElem_mem hkb)
    have hc0 := hwc cl[k] (List.getElem_mem hkc)
    have pa : cellH H1 ((⟨g3, 0, none⟩ : Addr).add k) = some (.int .u8 al[k]) := (hBa.ext hE).cell (by simp [hka])
    have pb : cellH H1 ((⟨g4, 0, none⟩ : Addr).add k) = some (.int .u8 bl[k]) := (hBb.ext hE).cell (by simp [hkb])
    have pc : cellH H1 ((⟨g5, 0, none⟩ : Addr).add k) = some (.int .u8 cl[k]) := (hBc.ext hE).cell (by simp [hkc])
    have hM0 : ∀ b ∈ vx.ownBlock.toList ++ (vy.ownBlock.toList ++ vz.ownBlock.toList), H0.size ≤ b ∧ b < H1.size := by
      intro b hb
      simp only [List.mem_append, Option.mem_toList] at hb
      rcases hb with h | h | h
      · exact hx0.lt b h
      · exact hy0.lt b h
      · exact hz0.lt b h
    refine wpSkip ?_
    refine hF8 _ _ ?_; clear hF8
    refine wpSeq fun F9 hF9 => ?_
    refine wpBlock ?_
    refine wpSeq fun F10 hF10 => ?_
    refine wpRegion ?_
    refine seqQ rfl rfl (yMove (v := .int _ _) rfl rfl) ?_
    refine seqQ rfl rfl (yAssign (v := .int _ _) rfl rfl) ?_
    refine seqNil ?_
    refine hF10 _ _ ?_; clear hF10
    refine wpRegionD Try_mixed [.q, .q, .q, .q, .q, .q, .n, .e, .q, .q, .q, .q, .q, .q, .n, .e, .q, .q, .q, .q, .q, .q, .n, .e, .q, .q, .q] 23 [0, 0, 2, 6, 14, 30, 62, 127, 0, 0, 512, 1536, 3584, 7680, 15872, 32767, 0, 0, 131072, 393216, 917504, 1966080, 4063232, 8388607, 16777215, 33554431, 67108863] (vx.ownBlock.toList ++ (vy.ownBlock.toList ++ vz.ownBlock.toList)) (by kernel_rfl) _ rfl [0, 1, 2, 3, 4, 5, 6, 7, 8, 9, 10, 11, 12, 13, 14, 15, 16, 17, 18, 19, 20, 21, 22] rfl (fun b hb => (hM0 b hb).2) ?_
    refine lexQ rfl rfl rfl rfl (fun H hM => (yMove (v := _) rfl rfl)) ?_
    refine lexQ rfl rfl rfl rfl (fun H hM => (yMove (v := .int _ _) rfl rfl)) ?_
    refine lexQ rfl rfl rfl rfl (fun H hM => (yIdxA1 rfl Try.underlying30 Try.sizeOf5 rfl rfl rfl (by omega))) ?_
    refine lexQ rfl rfl rfl rfl (fun H hM => (yLoad rfl Try.underlying5 rfl rfl (hM.cell pa (by rw [block_of_add]; intro hm; have h1 : H0.size ≤ g3 := (hM0 _ hm).1; have := hBa.lt; omega)))) ?_
    refine lexQ rfl rfl rfl rfl (fun H hM => (yRem rfl rfl rfl (by omega))) ?_
    refine lexQ rfl rfl rfl rfl (fun H hM => (yConv rfl Try.underlying5 Try.underlying3 rfl (IntWalk.i64_in _ (by omega)))) ?_
    refine lexNB rfl rfl rfl rfl (nBuildSlice (vs := [.int _ _]) rfl Try.underlying26 Try.sizeOf3 Try.zeroValue3 rfl rfl rfl rfl) (fun g25 hg25 => ?_)
    -- e slot 26: builtin append t19 t25 : [26, 26]
    refine lexE rfl rfl rfl rfl (fun H26 hX26 hM26 hN26 => stepApp (c := eInt) (hx0.ext hX26) rfl Try.underlying26 elem_eInt rfl (by omega) rfl rfl rfl (Blk.rd (c := eInt) (l := [al[k] % 4]) (hN26.blk (j := 6) (.head _) rfl)) (by simp; omega) (by have := hX26.size; have := hE.size; omega) ?_)
    intro v1 H2 hx1 g1
    refine lexGrew g1 (fun g hg => by simp [hg]) (fun b hb => Nat.lt_of_lt_of_le (hM0 b hb).2 hX26.size) (fun g hg => (hx1.lt g hg).2) ?_
    have hy1 := (hy0.ext hX26).grew g1 hxy
    have hz1 := (hz0.ext hX26).grew g1 hxz
    have hxy1 := hxy.grew (hy0.ext hX26) g1
    have hxz1 := hxz.grew (hz0.ext hX26) g1
    have hE1 := g1.ext (hE.trans hX26) (fun g hg => (hx0.lt g hg).1)
    have hM1 : ∀ b ∈ v1.ownBlock.toList ++ (vx.ownBlock.toList ++ (vy.ownBlock.toList ++ vz.ownBlock.toList)), b < H2.size := by
      intro b hb
      rcases List.mem_append.1 hb with hb | hb
      · rw [Option.mem_toList] at hb; exact (hx1.lt b hb).2
      · exact Nat.lt_of_lt_of_le (hM0 b hb).2 (Nat.le_trans hX26.size g1.1.size)
    refine lexQ rfl rfl rfl rfl (fun H hM => (yMove (v := _) rfl rfl)) ?_
    refine lexQ rfl rfl rfl rfl (fun H hM => (yMove (v := .int _ _) rfl rfl)) ?_
    refine lexQ rfl rfl rfl rfl (fun H hM => (yIdxA1 rfl Try.underlying30 Try.sizeOf5 rfl rfl rfl (by omega))) ?_
    refine lexQ rfl rfl rfl rfl (fun H hM => (yLoad rfl Try.underlying5 rfl rfl (hM.cell pb (by rw [block_of_add]; intro hm; have h1 : H0.size ≤ g4 := (hM0 _ hm).1; have := hBb.lt; omega)))) ?_
    refine lexQ rfl rfl rfl rfl (fun H hM => (yRem rfl rfl rfl (by omega))) ?_
    refine lexQ rfl rfl rfl rfl (fun H hM => (yConv rfl Try.underlying5 Try.underlying3 rfl (IntWalk.i64_in _ (by omega)))) ?_
    refine lexNB rfl rfl rfl rfl (nBuildSlice (vs := [.int _ _]) rfl Try.underlying26 Try.sizeOf3 Try.zeroValue3 rfl rfl rfl rfl) (fun g33 hg33 => ?_)
    -- e slot 34: builtin append t27 t33 : [26, 26]
    refine lexE rfl rfl rfl rfl (fun H34 hX34 hM34 hN34 => stepApp (c := eInt) (hy1.ext hX34) rfl Try.underlying26 elem_eInt rfl (by omega) rfl rfl rfl (Blk.rd (c := eInt) (l := [bl[k] % 4]) (hN34.blk (j := 14) (.head _) rfl)) (by simp; omega) (by have := hX34.size; have := hE1.size; omega) ?_)
    intro v2 H3 hy2 g2
    refine lexGrew g2 (fun g hg => by simp [hg]) (fun b hb => Nat.lt_of_lt_of_le (hM1 b hb) hX34.size) (fun g hg => (hy2.lt g hg).2) ?_
    have hx2 := (hx1.ext hX34).grew g2 hxy1.symm
    have hz2 := (hz1.ext hX34).grew g2 hyz
    have hxy2 := (hxy1.symm.grew (hx1.ext hX34) g2).symm
    have hyz2 := hyz.grew (hz1.ext hX34) g2
    have hE2 := g2.ext (hE1.trans hX34) (fun g hg => (hy1.lt g hg).1)
    have hM2 : ∀ b ∈ v2.ownBlock.toList ++ (v1.ownBlock.toList ++ (vx.ownBlock.toList ++ (vy.ownBlock.toList ++ vz.ownBlock.toList))), b < H3.size := by
      intro b hb
      rcases List.mem_append.1 hb with hb | hb
      · rw [Option.mem_toList] at hb; exact (hy2.lt b hb).2
      · exact Nat.lt_of_lt_of_le (hM1 b hb) (Nat.le_trans hX34.size g2.1.size)
    refine lexQ rfl rfl rfl rfl (fun H hM => (yMove (v := _) rfl rfl)) ?_
    refine lexQ rfl rfl rfl rfl (fun H hM => (yMove (v := .int _ _) rfl rfl)) ?_
    refine lexQ rfl rfl rfl rfl (fun H hM => (yIdxA1 rfl Try.underlying30 Try.sizeOf5 rfl rfl rfl (by omega))) ?_
    refine lexQ rfl rfl rfl rfl (fun H hM => (yLoad rfl Try.underlying5 rfl rfl (hM.cell pc (by rw [block_of_add]; intro hm; have h1 : H0.size ≤ g5 := (hM0 _ hm).1; have := hBc.lt; omega)))) ?_
    refine lexQ rfl rfl rfl rfl (fun H hM => (yRem rfl rfl rfl (by omega))) ?_
    refine lexQ rfl rfl rfl rfl (fun H hM => (yConv rfl Try.underlying5 Try.underlying3 rfl (IntWalk.i64_in _ (by omega)))) ?_
    refine lexNB rfl rfl rfl rfl (nBuildSlice (vs := [.int _ _]) rfl Try.underlying26 Try.sizeOf3 Try.zeroValue3 rfl rfl rfl rfl) (fun g41 hg41 => ?_)
    -- tail
    refine lexNil (fun Hf hXf hMf hNf => ?_)
    -- e slot 42: builtin append t35 t41 : [26, 26]
    refine seqE rfl rfl (stepApp (c := eInt) (hz2.ext hXf) rfl Try.underlying26 elem_eInt rfl (by omega) rfl rfl rfl (Blk.rd (c := eInt) (l := [cl[k] % 4]) (NF.blk 22 hNf (.head _))) (by simp; omega) (by have := hXf.size; have := hE2.size; omega) ?_)
    intro v3 H4 hz3 g3
    have hx3 := (hx2.ext hXf).grew g3 hxz1.symm
    have hy3 := (hy2.ext hXf).grew g3 hyz2.symm
    have hxz3 := (hxz1.symm.grew (hx2.ext hXf) g3).symm
    have hyz3 := (hyz2.symm.grew (hy2.ext hXf) g3).symm
    have hE3 := g3.ext (hE2.trans hXf) (fun g hg => (hz2.lt g hg).1)
    obtain ⟨X1, x1, rfl, -⟩ := hx3.form
    obtain ⟨Y1, y1, rfl, -⟩ := hy3.form
    obtain ⟨Z1, z1, rfl, -⟩ := hz3.form
    refine seqQ rfl rfl (yAssign (v := .slice _ _ _) rfl rfl) ?_
    refine seqQ rfl rfl (yAssign (v := .slice _ _ _) rfl rfl) ?_
    refine seqQ rfl rfl (yAssign (v := .slice _ _ _) rfl rfl) ?_
    refine seqNil ?_
    refine hF9 _ _ ?_; clear hF9
    refine wpRegion ?_
    refine seqQ rfl rfl (yAdd rfl rfl rfl (by unfold In64; omega)) ?_
    refine seqQ rfl rfl (yMove (v := .int _ _) rfl rfl) ?_
    refine seqNil ?_
    -- end loop
    refine loopEnd (k + 1, _, _, _) (by repeat (first | (with_reducible exact Agree.refl _ _) | refine Agree.upd ?_ rfl | refine Agree.over ?_ rfl)) (by show _ - (k + 1) < _ - k; omega) ⟨rfl, rfl, rfl, rfl, trivial⟩ ⟨by show k + 1 ≤ _; omega, hE3, ?_⟩
    refine ⟨?_, ?_, ?_, hxy2, hxz3, hyz3⟩
    · show Own _ _ _ _ _ ((al.map _).take (k + 1)); rw [← take_map_succ hka]; exact hx3
    · show Own _ _ _ _ _ ((bl.map _).take (k + 1)); rw [← take_map_succ hkb]; exact hy3
    · show Own _ _ _ _ _ ((cl.map _).take (k + 1)); rw [← take_map_succ hkc]; exact hz3
  · skip
    have hk4 : k = 4 := by omega
    subst hk4
    obtain ⟨X, cx, rfl, -, hX, -⟩ := h3.ox.form
    obtain ⟨Y, cy, rfl, -, hY, -⟩ := h3.oy.form
    obtain ⟨Z, cz, rfl, -, hZ, -⟩ := h3.oz.form
    clear h3
    rw [List.take_of_length_le (by simp [la])] at hX
    rw [List.take_of_length_le (by simp [lb])] at hY
    rw [List.take_of_length_le (by simp [lc])] at hZ
    have lX : ((al.map (· % 4)).take 4).length = (al.map (· % 4)).length := by simp [la]
    have lY : ((bl.map (· % 4)).take 4).length = (bl.map (· % 4)).length := by simp [lb]
    have lZ : ((cl.map (· % 4)).take 4).length = (cl.map (· % 4)).length := by simp [lc]
    rw [lX, lY, lZ]
    have l4a : (al.map (· % 4)).length = 4 := by simp [la]
    have l4b : (bl.map (· % 4)).length = 4 := by simp [lb]
    have l4c : (cl.map (· % 4)).length = 4 := by simp [lc]
    have k1 := kinds_one (l4a.trans l4b.symm)
    have k2 : beforeB (al.map (· % 4)) (bl.map (· % 4)) = true → beforeB (bl.map (· % 4)) (cl.map (· % 4)) = true → beforeB (al.map (· % 4)) (cl.map (· % 4)) = true := beforeB_trans
    generalize al.map (· % 4) = x at *
    generalize bl.map (· % 4) = y at *
    generalize cl.map (· % 4) = z at *
    refine wpExit ?_
    refine hF5 _ _ ?_; clear hF5
    refine wpSeq fun F11 hF11 => ?_
    refine wpRegion ?_
    refine seqQ rfl rfl (yAssign (v := .int _ _) rfl rfl) ?_
    refine seqNil ?_
    refine hF11 _ _ ?_; clear hF11
    refine wpSeq fun F12 hF12 => ?_
    refine wpRegion ?_
    refine seqQ rfl rfl (yMove (v := .slice _ _ _) rfl rfl) ?_
    refine seqQ rfl rfl (yMove (v := .slice _ _ _) rfl rfl) ?_
    -- e slot 46: call F17<farandole/vclock.Equal> t44 t45
    refine seqE rfl rfl (stepCall rfl Try.call17 rfl ?_)
    refine (equal_c X Y cx cy x y H1 hX hY (by omega) (by omega)).mono ?_
    rintro v H2 ⟨rfl, rfl⟩
    refine seqQ rfl rfl (yMove (v := .slice _ _ _) rfl rfl) ?_
    refine seqQ rfl rfl (yMove (v := .slice _ _ _) rfl rfl) ?_
    -- e slot 49: call F13<farandole/vclock.Before> t47 t48
    refine seqE rfl rfl (stepCall rfl Try.call13 rfl ?_)
    refine (before_c X Y cx cy x y H2 hX hY (by omega) (by omega)).mono ?_
    rintro v H3 ⟨rfl, rfl⟩
    refine seqQ rfl rfl (yMove (v := .slice _ _ _) rfl rfl) ?_
    refine seqQ rfl rfl (yMove (v := .slice _ _ _) rfl rfl) ?_
    -- e slot 52: call F13<farandole/vclock.Before> t50 t51
    refine seqE rfl rfl (stepCall rfl Try.call13 rfl ?_)
    refine (before_c Y X cy cx y x H3 hY hX (by omega) (by omega)).mono ?_
    rintro v H4 ⟨rfl, rfl⟩
    refine seqQ rfl rfl (yMove (v := .slice _ _ _) rfl rfl) ?_
    refine seqQ rfl rfl (yMove (v := .slice _ _ _) rfl rfl) ?_
    -- e slot 55: call F15<farandole/vclock.Concurrent> t53 t54
    refine seqE rfl rfl (stepCall rfl Try.call15 rfl ?_)
    refine (concurrent_c X Y cx cy x y H4 hX hY (by omega) (by omega)).mono ?_
    rintro v H5 ⟨rfl, rfl⟩
    refine seqN rfl rfl (nBuildSlice (vs := [.bool _, .bool _, .bool _, .bool _]) rfl Try.underlying31 Try.sizeOf4 Try.zeroValue4 rfl rfl rfl rfl) (fun g56 H56 hx56 hB56 hg56 hl56 => ?_)
    refine seqQ rfl rfl (yAssign (v := .slice _ _ _) rfl rfl) ?_
    refine seqNil ?_
    refine hF12 _ _ ?_; clear hF12
    refine wpSeq fun F13 hF13 => ?_
    refine wpSeq fun F14 hF14 => ?_
    refine wpRegion ?_
    refine seqQ rfl rfl (yMove (v := .slice _ _ _) rfl rfl) ?_
    refine seqQ rfl rfl (yLen rfl Try.underlying31 rfl) ?_
    refine seqQ rfl rfl (yMove (v := .int _ _) rfl rfl) ?_
    refine seqNil ?_
    refine hF14 _ _ ?_; clear hF14
    -- loop
    have hBs : Rd eBool H56 (some ⟨g56, 0, none⟩) [decide (x = y), beforeB x y, beforeB y x, concB x y] := Blk.rd (c := eBool) (l := [decide (x = y), beforeB x y, beforeB y x, concB x y]) hB56
    generalize hls : [decide (x = y), beforeB x y, beforeB y x, concB x y] = ls at *
    have lls : ls.length = 4 := by rw [← hls]; rfl
    refine wpBlock ?_
    refine wpLoopS [11, 13, 59, 60, 61, 62, 63, 64, 65, 66, 67, 68] (fun k : Nat => [(11, .int .i64 ((ls.take k).count true : Nat)), (59, .int .i64 k)]) (fun k H' => k ≤ 4 ∧ H' = H56) (fun k => 4 - k) 0 ⟨rfl, rfl, trivial⟩ ⟨Nat.zero_le _, rfl⟩ ?_
    rintro k J H' ⟨hk, rfl⟩
    refine wpSeq fun F15 hF15 => ?_
    refine wpRegion ?_
    refine seqQ rfl rfl (yLss rfl rfl rfl) ?_
    refine seqNil ?_
    refine hF15 _ _ ?_; clear hF15
    refine wpSeq fun F16 hF16 => ?_
    -- if t60
    refine wpIf rfl (fun hlt2 => ?_) (fun hlt2 => ?_)
    · skip
      have hkl : k < ls.length := by omega
      obtain ⟨p, e, hp⟩ := hBs.at1 hkl
      obtain rfl := Option.some.inj e
      have hct := count_take hkl
      have hcl : (ls.take k).count true ≤ 4 := by have := List.count_le_length (a := true) (l := ls.take k); rw [List.length_take] at this; omega
      refine wpSkip ?_
      refine hF16 _ _ ?_; clear hF16
      refine wpSeq fun F17 hF17 => ?_
      refine wpBlock ?_
      refine wpSeq fun F18 hF18 => ?_
      refine wpRegion ?_
      refine seqQ rfl rfl (yMove (v := .int _ _) rfl rfl) ?_
      refine seqQ rfl rfl (yAssign (v := .int _ _) rfl rfl) ?_
      refine seqNil ?_
      refine hF18 _ _ ?_; clear hF18
      refine wpSeq fun F19 hF19 => ?_
      refine wpRegion ?_
      refine seqQ rfl rfl (yMove (v := .slice _ _ _) rfl rfl) ?_
      refine seqQ rfl rfl (yMove (v := .int _ _) rfl rfl) ?_
      refine seqQ rfl rfl (yIdx1 rfl Try.underlying31 Try.sizeOf4 rfl rfl rfl (by omega)) ?_
      refine seqQ rfl rfl (yLoad rfl Try.underlying4 rfl rfl hp) ?_
      refine seqNil ?_
      refine hF19 _ _ ?_; clear hF19
      -- if t65
      refine wpCond rfl (fun hb => ?_) (fun hb => ?_)
      · skip
        rw [if_pos hb] at hct
        refine wpRegion ?_
        refine seqQ rfl rfl (yMove (v := .int _ _) rfl rfl) ?_
        refine seqQ rfl rfl (yAdd rfl rfl rfl (by unfold In64; omega)) ?_
        refine seqQ rfl rfl (yAssign (v := .int _ _) rfl rfl) ?_
        refine seqNil ?_
        refine hF17 _ _ ?_; clear hF17
        refine wpRegion ?_
        refine seqQ rfl rfl (yAdd rfl rfl rfl (by unfold In64; omega)) ?_
        refine seqQ rfl rfl (yMove (v := .int _ _) rfl rfl) ?_
        refine seqNil ?_
        -- end loop
        exact loopEnd (k + 1) (by repeat (first | (with_reducible exact Agree.refl _ _) | refine Agree.upd ?_ rfl | refine Agree.over ?_ rfl)) (by omega) ⟨congrArg (Value.int .i64) hct.symm, rfl, trivial⟩ ⟨by omega, rfl⟩
      · skip
        rw [if_neg (by rw [hb]; simp)] at hct
        refine wpSkip ?_
        refine hF17 _ _ ?_; clear hF17
        refine wpRegion ?_
        refine seqQ rfl rfl (yAdd rfl rfl rfl (by unfold In64; omega)) ?_
        refine seqQ rfl rfl (yMove (v := .int _ _) rfl rfl) ?_
        refine seqNil ?_
        -- end loop
        exact loopEnd (k + 1) (by repeat (first | (with_reducible exact Agree.refl _ _) | refine Agree.upd ?_ rfl | refine Agree.over ?_ rfl)) (by omega) ⟨congrArg (Value.int .i64) (by omega), rfl, trivial⟩ ⟨by omega, rfl⟩
    · skip
      have hk4 : k = 4 := by omega
      subst hk4
      rw [List.take_of_length_le (by omega), k1]
      have hE56 : Ext H H' := (hEE.trans hE).trans hx56
      have hX := hX.ext hx56
      have hY := hY.ext hx56
      have hZ := hZ.ext hx56
      refine wpExit ?_
      refine hF13 _ _ ?_; clear hF13
      refine wpSeq fun F20 hF20 => ?_
      refine wpRegion ?_
      refine seqQ rfl rfl (yMove (v := .int _ _) rfl rfl) ?_
      refine seqQ rfl rfl (yEql rfl rfl rfl) ?_
      refine seqQ rfl rfl (yMove (v := .bool true) rfl rfl) ?_
      refine seqQ rfl rfl (yMove (v := .slice _ _ _) rfl rfl) ?_
      refine seqQ rfl rfl (yMove (v := .slice _ _ _) rfl rfl) ?_
      -- e slot 74: call F13<farandole/vclock.Before> t72 t73
      refine seqE rfl rfl (stepCall rfl Try.call13 rfl ?_)
      refine (before_c X X cx cx x x H' hX hX (by omega) (by omega)).mono ?_
      rintro v H2 ⟨rfl, rfl⟩
      rw [beforeB_irrefl]
      refine seqQ rfl rfl (yNot rfl rfl) ?_
      refine seqQ rfl rfl (yPickT (v := .bool _) rfl rfl rfl) ?_
      refine seqQ rfl rfl (yMove (v := .bool true) rfl rfl) ?_
      refine seqQ rfl rfl (yMove (v := .slice _ _ _) rfl rfl) ?_
      refine seqQ rfl rfl (yMove (v := .slice _ _ _) rfl rfl) ?_
      -- e slot 80: call F15<farandole/vclock.Concurrent> t78 t79
      refine seqE rfl rfl (stepCall rfl Try.call15 rfl ?_)
      refine (concurrent_c X X cx cx x x H2 hX hX (by omega) (by omega)).mono ?_
      rintro v H3 ⟨rfl, rfl⟩
      rw [concB_irrefl]
      refine seqQ rfl rfl (yNot rfl rfl) ?_
      refine seqQ rfl rfl (yPickT (v := .bool _) rfl rfl rfl) ?_
      refine seqQ rfl rfl (yMove (v := .bool true) rfl rfl) ?_
      refine seqQ rfl rfl (yMove (v := .slice _ _ _) rfl rfl) ?_
      refine seqQ rfl rfl (yMove (v := .slice _ _ _) rfl rfl) ?_
      -- e slot 86: call F13<farandole/vclock.Before> t84 t85
      refine seqE rfl rfl (stepCall rfl Try.call13 rfl ?_)
      refine (before_c X Y cx cy x y H3 hX hY (by omega) (by omega)).mono ?_
      rintro v H4 ⟨rfl, rfl⟩
      refine seqQ rfl rfl (yNot rfl rfl) ?_
      -- guard t88
      refine seqGB rfl rfl rfl rfl (fun h1 => ?_) (fun h1 => ?_)
      · skip
        refine seqU rfl rfl ?_
        refine seqU rfl rfl ?_
        refine seqU rfl rfl ?_
        refine seqU rfl rfl ?_
        refine seqQ rfl rfl (yPickT (v := .bool _) rfl rfl rfl) ?_
        refine seqQ rfl rfl (yMove (v := .bool true) rfl rfl) ?_
        refine seqU rfl rfl ?_
        refine seqU rfl rfl ?_
        refine seqU rfl rfl ?_
        refine seqQ rfl rfl (yPickT (v := .bool _) rfl rfl rfl) ?_
        refine seqQ rfl rfl (yPickT (v := .bool _) rfl rfl rfl) ?_
        refine seqQ rfl rfl (yAssign (v := .bool _) rfl rfl) ?_
        refine seqNil ?_
        refine hF20 _ _ ?_; clear hF20
        -- ret
        refine wpRet (fin1 (v := .bool _) rfl rfl ?_)
        exact ⟨rfl, hE56⟩
      · skip
        have h1 : beforeB x y = true := by simpa using h1
        refine seqQ rfl rfl (yMove (v := .slice _ _ _) rfl rfl) ?_
        refine seqQ rfl rfl (yMove (v := .slice _ _ _) rfl rfl) ?_
        -- e slot 91: call F13<farandole/vclock.Before> t89 t90
        refine seqE rfl rfl (stepCall rfl Try.call13 rfl ?_)
        refine (before_c Y Z cy cz y z H4 hY hZ (by omega) (by omega)).mono ?_
        rintro v H5 ⟨rfl, rfl⟩
        refine seqQ rfl rfl (yNot rfl rfl) ?_
        refine seqQ rfl rfl (yPickF (v := .bool _) rfl rfl rfl) ?_
        -- guard t94
        refine seqGB rfl rfl rfl rfl (fun h2 => ?_) (fun h2 => ?_)
        · skip
          refine seqU rfl rfl ?_
          refine seqU rfl rfl ?_
          refine seqU rfl rfl ?_
          refine seqQ rfl rfl (yPickT (v := .bool _) rfl rfl rfl) ?_
          refine seqQ rfl rfl (yPickT (v := .bool _) rfl rfl rfl) ?_
          refine seqQ rfl rfl (yAssign (v := .bool _) rfl rfl) ?_
          refine seqNil ?_
          refine hF20 _ _ ?_; clear hF20
          -- ret
          refine wpRet (fin1 (v := .bool _) rfl rfl ?_)
          exact ⟨rfl, hE56⟩
        · skip
          have h2 : beforeB y z = true := by simpa [h1] using h2
          refine seqQ rfl rfl (yMove (v := .slice _ _ _) rfl rfl) ?_
          refine seqQ rfl rfl (yMove (v := .slice _ _ _) rfl rfl) ?_
          -- e slot 97: call F13<farandole/vclock.Before> t95 t96
          refine seqE rfl rfl (stepCall rfl Try.call13 rfl ?_)
          refine (before_c X Z cx cz x z H5 hX hZ (by omega) (by omega)).mono ?_
          rintro v H6 ⟨rfl, rfl⟩
          rw [k2 h1 h2]
          refine seqQ rfl rfl (yPickF (v := .bool _) rfl rfl rfl) ?_
          refine seqQ rfl rfl (yPickT (v := .bool _) rfl rfl rfl) ?_
          refine seqQ rfl rfl (yAssign (v := .bool _) rfl rfl) ?_
          refine seqNil ?_
          refine hF20 _ _ ?_; clear hF20
          -- ret
          refine wpRet (fin1 (v := .bool _) rfl rfl ?_)
          exact ⟨rfl, hE56⟩
end Go.Proofs.Ytomejdempmbbmaa
