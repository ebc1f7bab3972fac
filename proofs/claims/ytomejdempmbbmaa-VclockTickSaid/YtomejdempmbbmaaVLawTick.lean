/- Zero, Tick, Join and Receive of package vclock return the specified clocks or errors for any clocks and numbers; no conditions. -/
import Derived.Test.YtomejdempmbbmaaVAwake
import Derived.Test.YtomejdempmbbmaaOpenInts
namespace Go.Proofs.Ytomejdempmbbmaa
open Go.ChangeShapes Go.WideShapes Go.ChangeAt Go.RowKit

theorem set_all_ok {l : List Int} (h : l.all okEntry = true) {k : Nat} {x : Int} (hx : okEntry x = true) : (l.set k x).all okEntry = true := by
  rw [List.all_eq_true] at h ⊢
  intro y hy
  rcases List.mem_or_eq_of_mem_set hy with h1 | rfl
  · exact h y h1
  · exact hx
theorem valid_tickS (l : List Int) (r : Int) : validL (tickS l r).1 = ((tickS l r).2 == 0) := by
  unfold tickS
  split
  · rename_i hv
    split
    · split
      · rfl
      · rename_i x hx
        split
        · rfl
        · rename_i hne
          have hb := validL_at hv hx
          have hl := validL_len hv
          have hall : l.all okEntry = true := by rw [← validL_short l hl.2 hl.1]; exact hv
          show validL (l.set r.toNat (x + 1)) = true
          rw [validL_short _ (by simpa using hl.2) (by simpa using hl.1)]
          exact set_all_ok hall ((okEntry_iff _).2 ⟨by omega, by omega⟩)
    · rfl
  · rfl
theorem valid_zeroS (n : Int) : validL (zeroS n).1 = ((zeroS n).2 == 0) := by
  unfold zeroS
  split
  · rename_i h
    rw [validL_short _ (by simp; omega) (by simp; omega)]
    simp [okEntry]
  · rfl
theorem valid_joinS (a b : List Int) : validL (joinS a b).1 = ((joinS a b).2 == 0) := by
  unfold joinS
  split
  · rename_i h
    obtain ⟨h1, h2, h3⟩ := h
    have hl := validL_len h1
    show validL (maxAll a b) = true
    rw [validL_short _ (by rw [maxAll_length h3]; exact hl.2) (by rw [maxAll_length h3]; exact hl.1), List.all_eq_true]
    intro x hx
    obtain ⟨k, hk⟩ := List.mem_iff_getElem?.1 hx
    have hk1 := (List.getElem?_eq_some_iff.1 hk).1
    rw [maxAll_length h3] at hk1
    have e1 : a[k]? = some a[k] := List.getElem?_eq_getElem hk1
    have e2 : b[k]? = some (b[k]'(by omega)) := List.getElem?_eq_getElem (by omega)
    have h4 := validL_at h1 e1
    have h5 := validL_at h2 e2
    rw [maxAll_at e1 e2] at hk
    have := Option.some.inj hk
    exact (okEntry_iff x).2 (by omega)
  · rfl
theorem valid_receiveS (a b : List Int) (r : Int) : validL (receiveS a b r).1 = ((receiveS a b r).2 == 0) := by
  unfold receiveS
  split
  · exact valid_tickS _ _
  · rename_i h
    show false = _
    simp [h]
theorem tickS_length (l : List Int) (r : Int) : (tickS l r).1.length ≤ l.length := by
  unfold tickS
  split
  · split
    · split
      · simp
      · split <;> simp
    · simp
  · simp
theorem receiveS_length (a b : List Int) (r : Int) : (receiveS a b r).1.length ≤ a.length := by
  unfold receiveS
  split
  · exact Nat.le_trans (tickS_length _ _) (joinS_length a b)
  · simp
theorem eqL_self (l : List Int) : eqL l l = true := by simp [eqL]
theorem zeroS_length (n : Int) : (zeroS n).1.length ≤ 6 := by
  unfold zeroS
  split
  · simp; omega
  · simp

set_option maxHeartbeats 2000000 in
theorem tick_walk (A : Option Addr) (c : Nat) (xs : List Int) (r n : Int) (w : World) (ha : Ints w A xs) :
    Calls Try.prog 6 #[.slice A xs.length c, .int .i64 r, .int .i64 n] w fun e w' => e = .returned (.bool true) ∧ Ext w w' := by
  by_cases hfew : (decide (xs.length ≤ 60) && decide (0 ≤ 60)) = true
  · have hn : xs.length ≤ 1000000 := by simp at hfew; omega
    have hT := Nat.le_trans (tickS_length xs r) hn
    have hS := Nat.le_trans (zeroS_length n) (show 6 ≤ 1000000 by omega)
    have hV := valid_tickS xs r
    have hW := valid_zeroS n
    have k1 := fun W h => vTick_c A c xs r W hn h
    have k2 := fun W h => rTick_c A c xs r W hn h
    have k3 := fun W => vZero_c n W
    have k4 := fun W => rZero_c n W
    have HF := hide hfew
    clear hfew
    generalize tickS xs r = T at *
    generalize zeroS n = S at *
    obtain ⟨t1, t2⟩ := T
    obtain ⟨s1, s2⟩ := S
    dsimp only at hT hS hV hW
    have HT := hide hT
    have HS := hide hS
    have HV := hide hV
    have HW := hide hW
    have K1 := hide k1
    have K2 := hide k2
    have K3 := hide k3
    have K4 := hide k4
    clear hT hS hV hW k1 k2 k3 k4
    go_enter Try.func6, Try.ntmps6
    go_wp2_with fail
    refine (awake_c _).mono ?_
    rintro e w1 ⟨rfl, hE⟩
    have ha1 := ha.ext hE
    clear ha
    go_wp2_with fail
    refine (few_c A _ xs.length _ c _ _).mono ?_
    rintro e w2 ⟨rfl, rfl⟩
    rw [HF.out]
    go_wp2_with fail
    refine (K1.out _ ha1).mono ?_
    rintro e w2 ⟨A1, c1, rfl, hi1, hE1⟩
    dsimp only at hi1 ⊢
    go_wp2_with fail
    refine (K2.out _ (ha1.ext hE1)).mono ?_
    rintro e w3 ⟨A2, c2, rfl, hi2, hE2⟩
    dsimp only at hi2 ⊢
    go_wp2_with fail
    refine (K3.out _).mono ?_
    rintro e w4 ⟨A3, c3, rfl, hi3, hE3⟩
    dsimp only at hi3 ⊢
    go_wp2_with fail
    refine (K4.out _).mono ?_
    rintro e w5 ⟨A4, c4, rfl, hi4, hE4⟩
    dsimp only at hi4 ⊢
    have HEE := hide ((((hE.trans hE1).trans hE2).trans hE3).trans hE4)
    clear HF
    have hr : eqL t1 t1 = true := eqL_self t1
    have hr2 : eqL s1 s1 = true := eqL_self s1
    go_wp2_with fail
    refine (rEqual_c A1 A2 c1 c2 t1 t1 _ HT.out HT.out (((hi1.ext hE2).ext hE3).ext hE4) ((hi2.ext hE3).ext hE4)).mono ?_
    rintro e w6 ⟨rfl, q1, rfl⟩
    rw [hr]
    clear hr
    go_wp2_with fail
    refine (rEqual_c A3 A4 c3 c4 s1 s1 _ HS.out HS.out ((hi3.ext hE4).drewN _) (hi4.drewN _)).mono ?_
    rintro e w6 ⟨rfl, q2, rfl⟩
    rw [hr2]
    clear hr2
    go_wp2_with fail
    refine (vValid_c A1 c1 t1 _ HT.out ((((hi1.ext hE2).ext hE3).ext hE4).drewN _)).mono ?_
    rintro e w6 ⟨rfl, q3, rfl⟩
    rw [HV.out]
    go_wp2_with fail
    refine (vValid_c A3 c3 s1 _ HS.out ((hi3.ext hE4).drewN _)).mono ?_
    rintro e w6 ⟨rfl, q4, rfl⟩
    rw [HW.out]
    go_wp2
    go_ret
    exact ⟨by simp, by first | exact HEE.out.drewN _ | exact (HEE.out.drewN _).drewN _⟩
  · have HF : Hid ((decide (xs.length ≤ 60) && decide (0 ≤ 60)) = false) := Bool.eq_false_iff.2 hfew
    clear hfew
    go_enter Try.func6, Try.ntmps6
    go_wp2_with fail
    refine (awake_c _).mono ?_
    rintro e w1 ⟨rfl, hE⟩
    go_wp2_with fail
    refine (few_c A _ xs.length _ c _ _).mono ?_
    rintro e w2 ⟨rfl, rfl⟩
    rw [HF.out]
    go_wp2
    go_ret
    exact ⟨rfl, hE⟩

set_option maxRecDepth 100000 in
theorem vclockTick_lifted (os : Os) (started : os.Started) (H : Type) (enc : TypeId × Value → H) :
    ReturnsInHanded {} Try.checked os 6 .any (Rows.vclockTickSpec.pre6 enc Try.prog Try.f6 Rows.vclockTickRow.domain false) (Rows.vclockTickSpec.post enc Try.prog Try.f6 false true false false) := by
  refine law_lifted started Rows.vclockTickSpec rfl (by kernel_rfl) Try.func6 rfl
    (fun ds h => by match ds, h with | [_, _, _], _ => rfl) (of_decide_eq_true (by kernel_rfl))
    (ChangeSpec.witness6 (enc := enc) (C := Try.checked) false ⟨#[], #[.slice none 0 0, .int .i64 0, .int .i64 0], []⟩ 8 (by kernel_rfl) (by kernel_rfl) (by kernel_rfl) (by kernel_rfl)) ?_
  intro W base args ds p hval hA _
  rw [Try.params6] at hA hval
  obtain ⟨v0, v1, v2, d0, d1, d2, p0, p1, p2, rfl, rfl, rfl, h0, h1, h2⟩ := trodAll_three hA
  obtain ⟨A, c, xs, rfl, ha, _⟩ := open_Ints Try.underlying23 (hval 0 _ v0 rfl rfl) h0
  obtain ⟨r, rfl, rfl, rfl, _⟩ := open_int Try.underlying3 (hval 1 _ v1 rfl rfl) h1
  obtain ⟨n, rfl, rfl, rfl, _⟩ := open_int Try.underlying3 (hval 2 _ v2 rfl rfl) h2
  exact tick_walk A c xs r n W ha

theorem vclockTick_holds : Rows.VclockTickSaid :=
  OpenClaim.holds_of_wide 6 Try.f6 rfl rfl rfl rfl rfl rfl rfl ⟨rfl, rfl, rfl, rfl, rfl⟩ rfl rfl rfl rfl rfl (by kernel_rfl) Try.func6 (by kernel_rfl)
    (of_decide_eq_true (by kernel_rfl)) (by unfold Func.isWrapper; first | (rw [if_pos (by decide +kernel)]; kernel_rfl) | (rw [if_neg (by decide +kernel)]; exact ⟨rfl, rfl⟩))
    (fun os started H enc _ => vclockTick_lifted os started H enc)

set_option maxHeartbeats 2000000 in
theorem join_walk (A B : Option Addr) (c d : Nat) (xs ys : List Int) (r : Int) (w : World) (ha : Ints w A xs) (hb : Ints w B ys) :
    Calls Try.prog 7 #[.slice A xs.length c, .slice B ys.length d, .int .i64 r] w fun e w' => e = .returned (.bool true) ∧ Ext w w' := by
  by_cases hfew : (decide (xs.length ≤ 60) && decide (ys.length ≤ 60)) = true
  · have hn : xs.length ≤ 1000000 := by simp at hfew; omega
    have hm : ys.length ≤ 1000000 := by simp at hfew; omega
    have hT := Nat.le_trans (joinS_length xs ys) hn
    have hS := Nat.le_trans (receiveS_length xs ys r) hn
    have hV := valid_joinS xs ys
    have hW := valid_receiveS xs ys r
    have k1 := fun W h h' => vJoin_c A B c d xs ys W hn hm h h'
    have k2 := fun W h h' => rJoin_c A B c d xs ys W hn hm h h'
    have k3 := fun W h h' => vReceive_c A B c d xs ys r W hn hm h h'
    have k4 := fun W h h' => rReceive_c A B c d xs ys r W hn hm h h'
    have HF := hide hfew
    clear hfew
    generalize receiveS xs ys r = S at *
    generalize joinS xs ys = T at *
    obtain ⟨t1, t2⟩ := T
    obtain ⟨s1, s2⟩ := S
    dsimp only at hT hS hV hW
    have HT := hide hT
    have HS := hide hS
    have HV := hide hV
    have HW := hide hW
    have K1 := hide k1
    have K2 := hide k2
    have K3 := hide k3
    have K4 := hide k4
    clear hT hS hV hW k1 k2 k3 k4
    go_enter Try.func7, Try.ntmps7
    go_wp2_with fail
    refine (awake_c _).mono ?_
    rintro e w1 ⟨rfl, hE⟩
    have ha1 := ha.ext hE
    have hb1 := hb.ext hE
    clear ha hb
    go_wp2_with fail
    refine (few_c A B xs.length ys.length c d _).mono ?_
    rintro e w2 ⟨rfl, rfl⟩
    rw [HF.out]
    go_wp2_with fail
    refine (K1.out _ ha1 hb1).mono ?_
    rintro e w2 ⟨A1, c1, rfl, hi1, hE1⟩
    dsimp only at hi1 ⊢
    go_wp2_with fail
    refine (K2.out _ (ha1.ext hE1) (hb1.ext hE1)).mono ?_
    rintro e w3 ⟨A2, c2, rfl, hi2, hE2⟩
    dsimp only at hi2 ⊢
    have hE12 := hE1.trans hE2
    go_wp2_with fail
    refine (K3.out _ (ha1.ext hE12) (hb1.ext hE12)).mono ?_
    rintro e w4 ⟨A3, c3, rfl, hi3, hE3⟩
    dsimp only at hi3 ⊢
    have hE13 := hE12.trans hE3
    go_wp2_with fail
    refine (K4.out _ (ha1.ext hE13) (hb1.ext hE13)).mono ?_
    rintro e w5 ⟨A4, c4, rfl, hi4, hE4⟩
    dsimp only at hi4 ⊢
    have HEE := hide ((((hE.trans hE1).trans hE2).trans hE3).trans hE4)
    clear HF
    have hr : eqL t1 t1 = true := eqL_self t1
    have hr2 : eqL s1 s1 = true := eqL_self s1
    go_wp2_with fail
    refine (rEqual_c A1 A2 c1 c2 t1 t1 _ HT.out HT.out (((hi1.ext hE2).ext hE3).ext hE4) ((hi2.ext hE3).ext hE4)).mono ?_
    rintro e w6 ⟨rfl, q1, rfl⟩
    rw [hr]
    clear hr
    go_wp2_with fail
    refine (rEqual_c A3 A4 c3 c4 s1 s1 _ HS.out HS.out ((hi3.ext hE4).drewN _) (hi4.drewN _)).mono ?_
    rintro e w6 ⟨rfl, q2, rfl⟩
    rw [hr2]
    clear hr2
    go_wp2_with fail
    refine (vValid_c A1 c1 t1 _ HT.out ((((hi1.ext hE2).ext hE3).ext hE4).drewN _)).mono ?_
    rintro e w6 ⟨rfl, q3, rfl⟩
    rw [HV.out]
    go_wp2_with fail
    refine (vValid_c A3 c3 s1 _ HS.out ((hi3.ext hE4).drewN _)).mono ?_
    rintro e w6 ⟨rfl, q4, rfl⟩
    rw [HW.out]
    go_wp2
    go_ret
    exact ⟨by simp, by first | exact HEE.out.drewN _ | exact (HEE.out.drewN _).drewN _⟩
  · have HF : Hid ((decide (xs.length ≤ 60) && decide (ys.length ≤ 60)) = false) := Bool.eq_false_iff.2 hfew
    clear hfew
    go_enter Try.func7, Try.ntmps7
    go_wp2_with fail
    refine (awake_c _).mono ?_
    rintro e w1 ⟨rfl, hE⟩
    go_wp2_with fail
    refine (few_c A B xs.length ys.length c d _).mono ?_
    rintro e w2 ⟨rfl, rfl⟩
    rw [HF.out]
    go_wp2
    go_ret
    exact ⟨rfl, hE⟩

set_option maxRecDepth 100000 in
theorem vclockJoin_lifted (os : Os) (started : os.Started) (H : Type) (enc : TypeId × Value → H) :
    ReturnsInHanded {} Try.checked os 7 .any (Rows.vclockJoinSpec.pre6 enc Try.prog Try.f7 Rows.vclockJoinRow.domain false) (Rows.vclockJoinSpec.post enc Try.prog Try.f7 false true false false) := by
  refine law_lifted started Rows.vclockJoinSpec rfl (by kernel_rfl) Try.func7 rfl
    (fun ds h => by match ds, h with | [_, _, _], _ => rfl) (of_decide_eq_true (by kernel_rfl))
    (ChangeSpec.witness6 (enc := enc) (C := Try.checked) false ⟨#[], #[.slice none 0 0, .slice none 0 0, .int .i64 0], []⟩ 8 (by kernel_rfl) (by kernel_rfl) (by kernel_rfl) (by kernel_rfl)) ?_
  intro W base args ds p hval hA _
  rw [Try.params7] at hA hval
  obtain ⟨v0, v1, v2, d0, d1, d2, p0, p1, p2, rfl, rfl, rfl, h0, h1, h2⟩ := trodAll_three hA
  obtain ⟨A, c, xs, rfl, ha, _⟩ := open_Ints Try.underlying23 (hval 0 _ v0 rfl rfl) h0
  obtain ⟨B, d, ys, rfl, hb, _⟩ := open_Ints Try.underlying23 (hval 1 _ v1 rfl rfl) h1
  obtain ⟨r, rfl, rfl, rfl, _⟩ := open_int Try.underlying3 (hval 2 _ v2 rfl rfl) h2
  exact join_walk A B c d xs ys r W ha hb

theorem vclockJoin_holds : Rows.VclockJoinSaid :=
  OpenClaim.holds_of_wide 7 Try.f7 rfl rfl rfl rfl rfl rfl rfl ⟨rfl, rfl, rfl, rfl, rfl⟩ rfl rfl rfl rfl rfl (by kernel_rfl) Try.func7 (by kernel_rfl)
    (of_decide_eq_true (by kernel_rfl)) (by unfold Func.isWrapper; first | (rw [if_pos (by decide +kernel)]; kernel_rfl) | (rw [if_neg (by decide +kernel)]; exact ⟨rfl, rfl⟩))
    (fun os started H enc _ => vclockJoin_lifted os started H enc)

end Go.Proofs.Ytomejdempmbbmaa
