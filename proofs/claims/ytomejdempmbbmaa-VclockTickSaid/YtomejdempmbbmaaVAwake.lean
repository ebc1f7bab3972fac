/- Walks over layer 7's statements: the two helpers of the statements. -/
import Derived.Test.YtomejdempmbbmaaVWrites
namespace Go.Proofs.Ytomejdempmbbmaa
open Go.RowKit

theorem two_ints (w : World) (x y : Int) : Ints (w.alloc (.cells #[.int .i64 x, .int .i64 y] 3)) (some ⟨w.heap.size, 0, none⟩) [x, y] :=
  (OwnInts.lit w 0 (Nat.zero_le _) [x, y] (by simp)).ints

theorem two_ints_at (w : World) (N : Nat) (hN : N = w.heap.size) (x y : Int) : Ints (w.alloc (.cells #[.int .i64 x, .int .i64 y] 3)) (some ⟨N, 0, none⟩) [x, y] := by
  subst hN; exact two_ints w x y

set_option maxHeartbeats 400000 in
theorem few_c (A B : Option Addr) (n m c d : Nat) (w : World) : Calls Try.prog 10 #[.slice A n c, .slice B m d] w fun e w' => e = .returned (.bool (decide (n ≤ 60) && decide (m ≤ 60))) ∧ w = w' := by
  by_cases h1 : n ≤ 60
  · by_cases h2 : m ≤ 60
    · go_enter Try.func10, Try.ntmps10
      go_wp2
      go_ret
      exact ⟨by simp [h1, h2]; try omega, rfl⟩
    · go_enter Try.func10, Try.ntmps10
      go_wp2
      go_ret
      exact ⟨by simp [h1, h2]; try omega, rfl⟩
  · go_enter Try.func10, Try.ntmps10
    go_wp2
    go_ret
    exact ⟨by simp [h1], rfl⟩

set_option maxHeartbeats 1000000 in
theorem awake_c (w : World) : Calls Try.prog 9 #[] w fun e w' => e = .returned (.bool true) ∧ Ext w w' := by
  go_enter Try.func9, Try.ntmps9
  go_wp2_with fail
  refine (vTick_c _ 2 [0, 2] 0 _ (by simp) (two_ints _ _ _)).mono ?_
  rintro e w1 ⟨A1, c1, he, hi1, hE1⟩
  have ht : tickS [0, 2] 0 = ([1, 2], 0) := by decide
  rw [ht] at he hi1
  subst he
  clear ht
  go_wp2_with fail
  refine (vJoin_c A1 _ c1 2 [1, 2] [0, 5] _ (by simp) (by simp) (hi1.ext ((Ext.refl _).alloc _)) (two_ints _ _ _)).mono ?_
  rintro e w2 ⟨A2, c2, he, hi2, hE2⟩
  have ht : joinS [1, 2] [0, 5] = ([1, 5], 0) := by decide
  rw [ht] at he hi2
  subst he
  clear ht
  go_wp2_with fail
  refine (vEqual_c A2 _ c2 2 [1, 5] [1, 5] _ (by simp) (hi2.ext ((Ext.refl _).alloc _)) (two_ints _ _ _)).mono ?_
  rintro e w3 ⟨rfl, q3, rfl⟩
  have ht : eqL [1, 5] [1, 5] = true := by decide
  rw [ht]
  clear ht
  go_wp2_with fail
  refine (vBefore_c A1 A2 c1 c2 [1, 2] [1, 5] _ (by simp) (((hi1.ext ((Ext.refl _).alloc _)).ext hE2).ext (((Ext.refl _).alloc _).drewN _)) (hi2.ext (((Ext.refl _).alloc _).drewN _))).mono ?_
  rintro e w4 ⟨rfl, q4, rfl⟩
  have ht : beforeL [1, 2] [1, 5] = true := by decide
  rw [ht]
  clear ht
  go_wp2_with fail
  refine (vConc_c _ _ 2 2 [1, 0] [0, 1] _ (by simp) (by simp) ?hi ?hj).mono ?_
  case hi => exact ((two_ints_at _ _ (by simp) _ _).ext ((Ext.refl _).alloc _))
  case hj => exact two_ints_at _ _ (by simp) _ _
  rintro e w5 ⟨rfl, q5, rfl⟩
  have ht : concL [1, 0] [0, 1] = true := by decide
  rw [ht]
  clear ht
  go_wp2_with fail
  refine (vValid_c A2 c2 [1, 5] _ (by simp) ?hk).mono ?_
  case hk => exact hi2.ext ((((((Ext.refl _).alloc _).drewN _).alloc _).alloc _).drewN _)
  rintro e w6 ⟨rfl, q6, rfl⟩
  have ht : validL [1, 5] = true := by decide
  rw [ht]
  clear ht
  go_wp2
  go_ret
  refine ⟨rfl, ?_⟩
  have h0 : Ext w w1 := ((Ext.refl _).alloc _).trans hE1
  have h1 : Ext w w2 := (h0.trans ((Ext.refl _).alloc _)).trans hE2
  exact ((((((h1.alloc _).drewN _).alloc _).alloc _).drewN _))

end Go.Proofs.Ytomejdempmbbmaa
