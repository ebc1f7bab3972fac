/- Walks over layer 7 and its reference: Before, Concurrent, Equal. -/
import Derived.Test.YtomejdempmbbmaaVReads
namespace Go.Proofs.Ytomejdempmbbmaa
open Go.RowKit

set_option maxHeartbeats 400000 in
theorem rBefore_c (A B : Option Addr) (c d : Nat) (xs ys : List Int) (w : World) (hn : xs.length ≤ 1000000) (hm : ys.length ≤ 1000000) (ha : Ints w A xs) (hb : Ints w B ys) :
    Calls Try.prog 14 #[.slice A xs.length c, .slice B ys.length d] w fun e w' => e = .returned (.bool (beforeL xs ys)) ∧ Quiet w w' := by
  have HV : Hid (beforeL xs ys = (leL xs ys && !leL ys xs)) := rfl
  cases h1 : leL xs ys
  all_goals
    go_enter Try.func14, Try.ntmps14
    go_wp2_with fail
    refine (rAtMost_c A B c d xs ys _ hn ha hb).mono ?_
    rintro e w' ⟨rfl, q, rfl⟩
    go_wp2_with (go_at_call 31; refine (rAtMost_c B A d c ys xs _ hm (hb.drewN _) (ha.drewN _)).mono ?_; rintro e w' ⟨rfl, q2, rfl⟩)
    go_ret
    exact ⟨by rw [HV.out, h1]; rfl, (by first | exact Quiet.refl _ | exact Quiet.d1 _ _ | exact Quiet.d2 _ _ _ | exact Quiet.d3 _ _ _ _ | exact Quiet.d4 _ _ _ _ _ | assumption)⟩

set_option maxHeartbeats 400000 in
theorem rEqual_c (A B : Option Addr) (c d : Nat) (xs ys : List Int) (w : World) (hn : xs.length ≤ 1000000) (hm : ys.length ≤ 1000000) (ha : Ints w A xs) (hb : Ints w B ys) :
    Calls Try.prog 18 #[.slice A xs.length c, .slice B ys.length d] w fun e w' => e = .returned (.bool (eqL xs ys)) ∧ Quiet w w' := by
  have HV : Hid (eqL xs ys = (leL xs ys && leL ys xs)) := (leL_eq xs ys).symm
  cases h1 : leL xs ys
  all_goals
    go_enter Try.func18, Try.ntmps18
    go_wp2_with fail
    refine (rAtMost_c A B c d xs ys _ hn ha hb).mono ?_
    rintro e w' ⟨rfl, q, rfl⟩
    go_wp2_with (go_at_call 31; refine (rAtMost_c B A d c ys xs _ hm (hb.drewN _) (ha.drewN _)).mono ?_; rintro e w' ⟨rfl, q2, rfl⟩)
    go_ret
    exact ⟨by rw [HV.out, h1]; rfl, (by first | exact Quiet.refl _ | exact Quiet.d1 _ _ | exact Quiet.d2 _ _ _ | exact Quiet.d3 _ _ _ _ | exact Quiet.d4 _ _ _ _ _ | assumption)⟩

theorem vEqual_c (A B : Option Addr) (c d : Nat) (xs ys : List Int) (w : World) (hn : xs.length ≤ 1000000) (ha : Ints w A xs) (hb : Ints w B ys) :
    Calls Try.prog 17 #[.slice A xs.length c, .slice B ys.length d] w fun e w' => e = .returned (.bool (eqL xs ys)) ∧ Quiet w w' := by
  go_enter Try.func17, Try.ntmps17
  go_wp2_with fail
  refine (sEqual_c A B c d xs ys _ hn ha hb).mono ?_
  rintro e w' ⟨rfl, q, rfl⟩
  go_wp2
  go_ret
  exact ⟨rfl, (by first | exact Quiet.refl _ | exact Quiet.d1 _ _ | exact Quiet.d2 _ _ _ | exact Quiet.d3 _ _ _ _ | exact Quiet.d4 _ _ _ _ _ | assumption)⟩

set_option maxHeartbeats 400000 in
theorem vBefore_c (A B : Option Addr) (c d : Nat) (xs ys : List Int) (w : World) (hn : xs.length ≤ 1000000) (ha : Ints w A xs) (hb : Ints w B ys) :
    Calls Try.prog 13 #[.slice A xs.length c, .slice B ys.length d] w fun e w' => e = .returned (.bool (beforeL xs ys)) ∧ Quiet w w' := by
  have HV : Hid ((decide (xs.length = ys.length) && (!decide (xs = ys) && leAll xs ys)) = beforeL xs ys) := before_eq xs ys
  by_cases hl : xs.length = ys.length
  · have Hl : Hid (decide (xs.length = ys.length) = true) := decide_eq_true hl
    have HL := Lib.hid hl
    have h0 : ((xs.length : Int) == ys.length) = true := by simp [hl]
    clear hl
    cases he : eqL xs ys
    · have HE : Hid (decide (xs = ys) = false) := he
      go_enter Try.func13, Try.ntmps13
      go_wp2_with fail
      refine (sEqual_c A B c d xs ys _ hn ha hb).mono ?_
      rintro e w' ⟨rfl, q, rfl⟩
      go_wp2_with (go_at_call 30; refine (atMost_c A B c d xs ys _ hn (ha.drewN _) (hb.drewN _) HL.out).mono ?_; rintro e w' ⟨rfl, q2, rfl⟩)
      go_ret
      exact ⟨by rw [← HV.out, Hl.out, HE.out]; rfl, (by first | exact Quiet.refl _ | exact Quiet.d1 _ _ | exact Quiet.d2 _ _ _ | exact Quiet.d3 _ _ _ _ | exact Quiet.d4 _ _ _ _ _ | assumption)⟩
    · have HE : Hid (decide (xs = ys) = true) := he
      go_enter Try.func13, Try.ntmps13
      go_wp2_with fail
      refine (sEqual_c A B c d xs ys _ hn ha hb).mono ?_
      rintro e w' ⟨rfl, q, rfl⟩
      go_wp2
      go_ret
      exact ⟨by rw [← HV.out, Hl.out, HE.out]; rfl, (by first | exact Quiet.refl _ | exact Quiet.d1 _ _ | exact Quiet.d2 _ _ _ | exact Quiet.d3 _ _ _ _ | exact Quiet.d4 _ _ _ _ _ | assumption)⟩
  · have Hl : Hid (decide (xs.length = ys.length) = false) := decide_eq_false hl
    have h0 : ((xs.length : Int) == ys.length) = false := by rw [beq_eq_false_iff_ne]; omega
    clear hl
    go_enter Try.func13, Try.ntmps13
    go_wp2
    go_ret
    exact ⟨by rw [← HV.out, Hl.out]; rfl, (by first | exact Quiet.refl _ | exact Quiet.d1 _ _ | exact Quiet.d2 _ _ _ | exact Quiet.d3 _ _ _ _ | exact Quiet.d4 _ _ _ _ _ | assumption)⟩

set_option maxHeartbeats 400000 in
theorem rConc_c (A B : Option Addr) (c d : Nat) (xs ys : List Int) (w : World) (hn : xs.length ≤ 1000000) (hm : ys.length ≤ 1000000) (ha : Ints w A xs) (hb : Ints w B ys) :
    Calls Try.prog 16 #[.slice A xs.length c, .slice B ys.length d] w fun e w' => e = .returned (.bool (concL xs ys)) ∧ Quiet w w' := by
  have HV : Hid (concL xs ys = (decide (xs.length = ys.length) && (!leL xs ys && !leL ys xs))) := rfl
  by_cases hl : xs.length = ys.length
  · have Hl : Hid (decide (xs.length = ys.length) = true) := decide_eq_true hl
    have h0 : ((xs.length : Int) == ys.length) = true := by simp [hl]
    clear hl
    cases h1 : leL xs ys
    all_goals
      go_enter Try.func16, Try.ntmps16
      go_wp2_with fail
      refine (rAtMost_c A B c d xs ys _ hn ha hb).mono ?_
      rintro e w' ⟨rfl, q, rfl⟩
      go_wp2_with (go_at_call 31; refine (rAtMost_c B A d c ys xs _ hm (hb.drewN _) (ha.drewN _)).mono ?_; rintro e w' ⟨rfl, q2, rfl⟩)
      go_ret
      exact ⟨by rw [HV.out, Hl.out, h1]; rfl, (by first | exact Quiet.refl _ | exact Quiet.d1 _ _ | exact Quiet.d2 _ _ _ | exact Quiet.d3 _ _ _ _ | exact Quiet.d4 _ _ _ _ _ | assumption)⟩
  · have Hl : Hid (decide (xs.length = ys.length) = false) := decide_eq_false hl
    have h0 : ((xs.length : Int) == ys.length) = false := by rw [beq_eq_false_iff_ne]; omega
    clear hl
    go_enter Try.func16, Try.ntmps16
    go_wp2
    go_ret
    exact ⟨by rw [HV.out, Hl.out]; rfl, (by first | exact Quiet.refl _ | exact Quiet.d1 _ _ | exact Quiet.d2 _ _ _ | exact Quiet.d3 _ _ _ _ | exact Quiet.d4 _ _ _ _ _ | assumption)⟩

set_option maxHeartbeats 400000 in
theorem vConc_c (A B : Option Addr) (c d : Nat) (xs ys : List Int) (w : World) (hn : xs.length ≤ 1000000) (hm : ys.length ≤ 1000000) (ha : Ints w A xs) (hb : Ints w B ys) :
    Calls Try.prog 15 #[.slice A xs.length c, .slice B ys.length d] w fun e w' => e = .returned (.bool (concL xs ys)) ∧ Quiet w w' := by
  have HV : Hid (concL xs ys = (decide (xs.length = ys.length) && (!leL xs ys && !leL ys xs))) := rfl
  by_cases hl : xs.length = ys.length
  · have Hl : Hid (decide (xs.length = ys.length) = true) := decide_eq_true hl
    have H1 : Hid (leL xs ys = leAll xs ys) := by show _ = _; simp [leL, hl]
    have H2 : Hid (leL ys xs = leAll ys xs) := by show _ = _; simp [leL, hl]
    have HL := Lib.hid hl
    have h0 : ((xs.length : Int) == ys.length) = true := by simp [hl]
    clear hl
    cases h1 : leAll xs ys
    all_goals
      go_enter Try.func15, Try.ntmps15
      go_wp2_with fail
      refine (atMost_c A B c d xs ys _ hn ha hb HL.out).mono ?_
      rintro e w' ⟨rfl, q, rfl⟩
      go_wp2_with (go_at_call 30; refine (atMost_c B A d c ys xs _ hm (hb.drewN _) (ha.drewN _) HL.out.symm).mono ?_; rintro e w' ⟨rfl, q2, rfl⟩)
      go_ret
      exact ⟨by rw [HV.out, Hl.out, H1.out, H2.out, h1]; rfl, (by first | exact Quiet.refl _ | exact Quiet.d1 _ _ | exact Quiet.d2 _ _ _ | exact Quiet.d3 _ _ _ _ | exact Quiet.d4 _ _ _ _ _ | assumption)⟩
  · have Hl : Hid (decide (xs.length = ys.length) = false) := decide_eq_false hl
    have h0 : ((xs.length : Int) == ys.length) = false := by rw [beq_eq_false_iff_ne]; omega
    clear hl
    go_enter Try.func15, Try.ntmps15
    go_wp2
    go_ret
    exact ⟨by rw [HV.out, Hl.out]; rfl, (by first | exact Quiet.refl _ | exact Quiet.d1 _ _ | exact Quiet.d2 _ _ _ | exact Quiet.d3 _ _ _ _ | exact Quiet.d4 _ _ _ _ _ | assumption)⟩

end Go.Proofs.Ytomejdempmbbmaa
