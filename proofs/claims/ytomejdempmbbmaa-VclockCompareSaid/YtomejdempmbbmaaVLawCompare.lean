/- Valid, Before, Concurrent and Equal of package vclock report the specified results for any two clocks; no conditions. -/
import Derived.Test.YtomejdempmbbmaaVAwake
import Derived.Test.YtomejdempmbbmaaOpenInts
namespace Go.Proofs.Ytomejdempmbbmaa
open Go.ChangeShapes Go.WideShapes Go.ChangeAt Go.RowKit

set_option maxHeartbeats 2000000 in
theorem compare_walk (A B : Option Addr) (c d : Nat) (xs ys : List Int) (w : World) (ha : Ints w A xs) (hb : Ints w B ys) :
    Calls Try.prog 3 #[.slice A xs.length c, .slice B ys.length d] w fun e w' => e = .returned (.bool true) ∧ Ext w w' := by
  by_cases hfew : (decide (xs.length ≤ 60) && decide (ys.length ≤ 60)) = true
  · have hn : xs.length ≤ 1000000 := by simp at hfew; omega
    have hm : ys.length ≤ 1000000 := by simp at hfew; omega
    have HF := hide hfew
    clear hfew
    go_enter Try.func3, Try.ntmps3
    go_wp2_with fail
    refine (awake_c _).mono ?_
    rintro e w1 ⟨rfl, hE⟩
    have ha1 := ha.ext hE
    have hb1 := hb.ext hE
    clear ha hb
    have HE := hide hE
    clear hE
    go_wp2_with fail
    refine (few_c A B xs.length ys.length c d _).mono ?_
    rintro e w2 ⟨rfl, rfl⟩
    rw [HF.out]
    go_wp2_with fail
    refine (vValid_c A c xs _ hn ha1).mono ?_
    rintro e w2 ⟨rfl, q1, rfl⟩
    go_wp2_with fail
    refine (rValid_c A c xs _ hn (ha1.drewN _)).mono ?_
    rintro e w2 ⟨rfl, q2, rfl⟩
    go_wp2_with fail
    refine (vBefore_c A B c d xs ys _ hn (ha1.drewN _) (hb1.drewN _)).mono ?_
    rintro e w2 ⟨rfl, q3, rfl⟩
    go_wp2_with fail
    refine (rBefore_c A B c d xs ys _ hn hm (ha1.drewN _) (hb1.drewN _)).mono ?_
    rintro e w2 ⟨rfl, q4, rfl⟩
    go_wp2_with fail
    refine (vConc_c A B c d xs ys _ hn hm (ha1.drewN _) (hb1.drewN _)).mono ?_
    rintro e w2 ⟨rfl, q5, rfl⟩
    go_wp2_with fail
    refine (rConc_c A B c d xs ys _ hn hm (ha1.drewN _) (hb1.drewN _)).mono ?_
    rintro e w2 ⟨rfl, q6, rfl⟩
    go_wp2_with fail
    refine (vEqual_c A B c d xs ys _ hn (ha1.drewN _) (hb1.drewN _)).mono ?_
    rintro e w2 ⟨rfl, q7, rfl⟩
    go_wp2_with fail
    refine (rEqual_c A B c d xs ys _ hn hm (ha1.drewN _) (hb1.drewN _)).mono ?_
    rintro e w2 ⟨rfl, q8, rfl⟩
    go_wp2_with fail
    refine (vEqual_c A A c c xs xs _ hn (ha1.drewN _) (ha1.drewN _)).mono ?_
    rintro e w2 ⟨rfl, q9, rfl⟩
    have hr : eqL xs xs = true := by simp [eqL]
    rw [hr]
    clear hr
    go_wp2
    go_ret
    exact ⟨rfl, by first | exact HE.out.drewN _ | exact (HE.out.drewN _).drewN _⟩
  · have HF : Hid ((decide (xs.length ≤ 60) && decide (ys.length ≤ 60)) = false) := Bool.eq_false_iff.2 hfew
    clear hfew
    go_enter Try.func3, Try.ntmps3
    go_wp2_with fail
    refine (awake_c _).mono ?_
    rintro e w1 ⟨rfl, hE⟩
    go_wp2_with fail
    refine (few_c A B xs.length ys.length c d _).mono ?_
    rintro e w2 ⟨rfl, rfl⟩
    rw [HF.out]
    go_wp2
    go_ret
    exact ⟨rfl, hE⟩

set_option maxRecDepth 100000 in
theorem vclockCompare_lifted (os : Os) (started : os.Started) (H : Type) (enc : TypeId × Value → H) :
    ReturnsInHanded {} Try.checked os 3 .any (Rows.vclockCompareSpec.pre6 enc Try.prog Try.f3 Rows.vclockCompareRow.domain false) (Rows.vclockCompareSpec.post enc Try.prog Try.f3 false true false false) := by
  refine law_lifted started Rows.vclockCompareSpec rfl (by kernel_rfl) Try.func3 rfl
    (fun ds h => by match ds, h with | [_, _], _ => rfl) (of_decide_eq_true (by kernel_rfl))
    (ChangeSpec.witness6 (enc := enc) (C := Try.checked) false ⟨#[], #[.slice none 0 0, .slice none 0 0], []⟩ 8 (by kernel_rfl) (by kernel_rfl) (by kernel_rfl) (by kernel_rfl)) ?_
  intro W base args ds p hval hA _
  rw [Try.params3] at hA hval
  obtain ⟨v0, v1, d0, d1, p0, p1, rfl, rfl, rfl, h0, h1⟩ := trodAll_two hA
  obtain ⟨A, c, xs, rfl, ha, _⟩ := open_Ints Try.underlying23 (hval 0 _ v0 rfl rfl) h0
  obtain ⟨B, d, ys, rfl, hb, _⟩ := open_Ints Try.underlying23 (hval 1 _ v1 rfl rfl) h1
  exact compare_walk A B c d xs ys W ha hb

theorem vclockCompare_holds : Rows.VclockCompareSaid :=
  OpenClaim.holds_of_wide 3 Try.f3 rfl rfl rfl rfl rfl rfl rfl ⟨rfl, rfl, rfl, rfl, rfl⟩ rfl rfl rfl rfl rfl (by kernel_rfl) Try.func3 (by kernel_rfl)
    (of_decide_eq_true (by kernel_rfl)) (by unfold Func.isWrapper; first | (rw [if_pos (by decide +kernel)]; kernel_rfl) | (rw [if_neg (by decide +kernel)]; exact ⟨rfl, rfl⟩))
    (fun os started H enc _ => vclockCompare_lifted os started H enc)

end Go.Proofs.Ytomejdempmbbmaa
