/- Walks over layer 7 and its reference: the functions that only read. -/
import Derived.Test.YtomejdempmbbmaaRows
import Derived.Test.YtomejdempmbbmaaBase
import Derived.Test.YtomejdempmbbmaaVSpec
namespace Go.Proofs.Ytomejdempmbbmaa
open Go.RowKit

theorem min_if (y z : Int) : (if z < y then z else y) = min y z := by split <;> omega
theorem max_if (y z : Int) : (if y < z then z else y) = max y z := by split <;> omega

set_option maxHeartbeats 400000 in
theorem atMost_c (A B : Option Addr) (c d : Nat) (xs ys : List Int) (w : World) (hn : xs.length ≤ 1000000) (ha : Ints w A xs) (hb : Ints w B ys) (hl : xs.length = ys.length) :
    Calls Try.prog 30 #[.slice A xs.length c, .slice B ys.length d] w fun e w' => e = .returned (.bool (leAll xs ys)) ∧ Quiet w w' := by
  have Hl := Lib.hid hl
  have hle : ys.length ≤ xs.length := by omega
  clear hl
  go_enter Try.func30, Try.ntmps30
  go_wp2
  go_loopw [8] (fun i wr => ∃ k : Nat, k ≤ xs.length ∧ i = .int .i64 k ∧ Quiet w wr ∧ Hid (leAll (xs.drop k) (ys.drop k) = leAll xs ys)) (fun i _ => xs.length - (intOf i).toNat)
  case atStart => exact ⟨0, Nat.zero_le _, rfl, Quiet.refl w, rfl⟩
  case round =>
    obtain ⟨k, hk, rfl, ⟨q, rfl⟩, HR⟩ := hrel
    by_cases hlt : k < xs.length
    · obtain ⟨a, x, rfl, e1, -, h1, -⟩ := ha.at_ hlt
      obtain ⟨b, y, rfl, e2, -, h2, -⟩ := hb.at_ (k := k) (by rw [← Hl.out]; exact hlt)
      have hlt' : k < ys.length := by rw [← Hl.out]; exact hlt
      have HS : Hid (leAll xs ys = (decide (x ≤ y) && leAll (xs.drop (k + 1)) (ys.drop (k + 1)))) := by
        show _ = _
        rw [← HR.out, e1, e2, leAll]
      clear e1 e2 ha hb HR
      by_cases hxy : y < x
      · go_wp2
        go_quiet (fail)
        go_wp2
        go_ret
        exact ⟨by rw [HS.out, decide_eq_false (by omega)]; rfl, (by first | exact Quiet.refl _ | exact Quiet.d1 _ _ | exact Quiet.d2 _ _ _ | exact Quiet.d3 _ _ _ _ | exact Quiet.d4 _ _ _ _ _ | assumption)⟩
      · go_wp2
        go_quiet (fail)
        go_wp2
        go_roundw
        case rel => exact ⟨k + 1, by omega, by go_num, (by first | exact Quiet.refl _ | exact Quiet.d1 _ _ | exact Quiet.d2 _ _ _ | exact Quiet.d3 _ _ _ _ | exact Quiet.d4 _ _ _ _ _ | assumption), by show _ = _; rw [HS.out, decide_eq_true (by omega)]; rfl⟩
        case measure => simp [intOf]; omega
    · go_wp2
      go_ret
      refine ⟨?_, (by first | exact Quiet.refl _ | exact Quiet.d1 _ _ | exact Quiet.d2 _ _ _ | exact Quiet.d3 _ _ _ _ | exact Quiet.d4 _ _ _ _ _ | assumption)⟩
      rw [← HR.out, List.drop_eq_nil_of_le (by omega)]
      simp [leAll]

set_option maxHeartbeats 400000 in
theorem rAtMost_c (A B : Option Addr) (c d : Nat) (xs ys : List Int) (w : World) (hn : xs.length ≤ 1000000) (ha : Ints w A xs) (hb : Ints w B ys) :
    Calls Try.prog 31 #[.slice A xs.length c, .slice B ys.length d] w fun e w' => e = .returned (.bool (leL xs ys)) ∧ Quiet w w' := by
  by_cases hl : xs.length = ys.length
  · have HL : Hid (leL xs ys = leAll xs ys) := by show _ = _; simp [leL, hl]
    have Hl := Lib.hid hl
    have hle : ys.length ≤ xs.length := by omega
    have hne : ((xs.length : Int) != ys.length) = false := by simp [hl]
    clear hl
    go_enter Try.func31, Try.ntmps31
    go_wp2
    go_loopw [5] (fun i wr => ∃ k : Nat, k ≤ xs.length ∧ i = .int .i64 k ∧ Quiet w wr ∧ Hid (leAll (xs.drop k) (ys.drop k) = leAll xs ys)) (fun i _ => xs.length - (intOf i).toNat)
    case atStart => exact ⟨0, Nat.zero_le _, rfl, Quiet.refl w, rfl⟩
    case round =>
      obtain ⟨k, hk, rfl, ⟨q, rfl⟩, HR⟩ := hrel
      by_cases hlt : k < xs.length
      · obtain ⟨a, x, rfl, e1, -, h1, -⟩ := ha.at_ hlt
        obtain ⟨b, y, rfl, e2, -, h2, -⟩ := hb.at_ (k := k) (by rw [← Hl.out]; exact hlt)
        have hlt' : k < ys.length := by rw [← Hl.out]; exact hlt
        have HS : Hid (leAll xs ys = (decide (x ≤ y) && leAll (xs.drop (k + 1)) (ys.drop (k + 1)))) := by
          show _ = _
          rw [← HR.out, e1, e2, leAll]
        clear e1 e2 ha hb HR
        by_cases hxy : y < x
        · go_wp2
          go_quiet (fail)
          go_wp2
          go_ret
          exact ⟨by rw [HL.out, HS.out, decide_eq_false (by omega)]; rfl, (by first | exact Quiet.refl _ | exact Quiet.d1 _ _ | exact Quiet.d2 _ _ _ | exact Quiet.d3 _ _ _ _ | exact Quiet.d4 _ _ _ _ _ | assumption)⟩
        · go_wp2
          go_quiet (fail)
          go_wp2
          go_roundw
          case rel => exact ⟨k + 1, by omega, by go_num, (by first | exact Quiet.refl _ | exact Quiet.d1 _ _ | exact Quiet.d2 _ _ _ | exact Quiet.d3 _ _ _ _ | exact Quiet.d4 _ _ _ _ _ | assumption), by show _ = _; rw [HS.out, decide_eq_true (by omega)]; rfl⟩
          case measure => simp [intOf]; omega
      · go_wp2
        go_ret
        refine ⟨?_, (by first | exact Quiet.refl _ | exact Quiet.d1 _ _ | exact Quiet.d2 _ _ _ | exact Quiet.d3 _ _ _ _ | exact Quiet.d4 _ _ _ _ _ | assumption)⟩
        rw [HL.out, ← HR.out, List.drop_eq_nil_of_le (by omega)]
        simp [leAll]
  · have HL : Hid (leL xs ys = false) := by show _ = _; simp [leL, hl]
    have hne : ((xs.length : Int) != ys.length) = true := by rw [bne_iff_ne]; omega
    clear hl
    go_enter Try.func31, Try.ntmps31
    go_wp2
    go_ret
    exact ⟨by rw [HL.out]; rfl, (by first | exact Quiet.refl _ | exact Quiet.d1 _ _ | exact Quiet.d2 _ _ _ | exact Quiet.d3 _ _ _ _ | exact Quiet.d4 _ _ _ _ _ | assumption)⟩

set_option maxHeartbeats 400000 in
theorem sEqual_c (A B : Option Addr) (c d : Nat) (xs ys : List Int) (w : World) (hn : xs.length ≤ 1000000) (ha : Ints w A xs) (hb : Ints w B ys) :
    Calls Try.prog 29 #[.slice A xs.length c, .slice B ys.length d] w fun e w' => e = .returned (.bool (eqL xs ys)) ∧ Quiet w w' := by
  by_cases hl : xs.length = ys.length
  · have Hl := Lib.hid hl
    have hle : ys.length ≤ xs.length := by omega
    have hne : ((xs.length : Int) != ys.length) = false := by simp [hl]
    clear hl
    go_enter Try.func29, Try.ntmps29
    go_wp2
    go_loopw [13] (fun i wr => ∃ k : Nat, k ≤ xs.length ∧ i = .int .i64 k ∧ Quiet w wr ∧ Hid (xs.take k = ys.take k)) (fun i _ => xs.length - (intOf i).toNat)
    case atStart => exact ⟨0, Nat.zero_le _, rfl, Quiet.refl w, rfl⟩
    case round =>
      obtain ⟨k, hk, rfl, ⟨q, rfl⟩, HR⟩ := hrel
      by_cases hlt : k < xs.length
      · obtain ⟨a, x, rfl, -, e1, h1, -⟩ := ha.at_ hlt
        obtain ⟨b, y, rfl, -, e2, h2, -⟩ := hb.at_ (k := k) (by rw [← Hl.out]; exact hlt)
        have hlt' : k < ys.length := by rw [← Hl.out]; exact hlt
        have E1 := hide e1
        have E2 := hide e2
        clear e1 e2 ha hb
        by_cases hxy : x = y
        · have hb : (x != y) = false := by simp [hxy]
          have HS : Hid (xs.take (k + 1) = ys.take (k + 1)) := by
            show _ = _
            rw [List.take_add_one, List.take_add_one, HR.out, E1.out, E2.out, hxy]
          clear hxy
          go_wp2
          go_quiet (fail)
          go_wp2
          go_roundw
          case rel => exact ⟨k + 1, by omega, by go_num, (by first | exact Quiet.refl _ | exact Quiet.d1 _ _ | exact Quiet.d2 _ _ _ | exact Quiet.d3 _ _ _ _ | exact Quiet.d4 _ _ _ _ _ | assumption), HS⟩
          case measure => simp [intOf]; omega
        · have hb : (x != y) = true := by simp [hxy]
          have HS : Hid (eqL xs ys = false) := by
            show _ = _
            simp only [eqL, decide_eq_false_iff_not]
            rintro rfl
            exact hxy (Option.some.inj (E1.out.symm.trans E2.out))
          clear hxy
          go_wp2
          go_quiet (fail)
          go_wp2
          go_ret
          exact ⟨by rw [HS.out]; rfl, (by first | exact Quiet.refl _ | exact Quiet.d1 _ _ | exact Quiet.d2 _ _ _ | exact Quiet.d3 _ _ _ _ | exact Quiet.d4 _ _ _ _ _ | assumption)⟩
      · go_wp2
        go_ret
        refine ⟨?_, (by first | exact Quiet.refl _ | exact Quiet.d1 _ _ | exact Quiet.d2 _ _ _ | exact Quiet.d3 _ _ _ _ | exact Quiet.d4 _ _ _ _ _ | assumption)⟩
        have h := HR.out
        rw [List.take_of_length_le (by omega), List.take_of_length_le (by omega)] at h
        simp [eqL, h]
  · have HL : Hid (eqL xs ys = false) := by
      show _ = _
      simp only [eqL, decide_eq_false_iff_not]
      rintro rfl
      exact hl rfl
    have hne : ((xs.length : Int) != ys.length) = true := by rw [bne_iff_ne]; omega
    clear hl
    go_enter Try.func29, Try.ntmps29
    go_wp2
    go_ret
    exact ⟨by rw [HL.out]; rfl, (by first | exact Quiet.refl _ | exact Quiet.d1 _ _ | exact Quiet.d2 _ _ _ | exact Quiet.d3 _ _ _ _ | exact Quiet.d4 _ _ _ _ _ | assumption)⟩


set_option maxHeartbeats 400000 in
theorem sMin_c (A : Option Addr) (c : Nat) (x : Int) (xs : List Int) (w : World) (hn : (x :: xs).length ≤ 1000000) (ha : Ints w A (x :: xs)) :
    Calls Try.prog 27 #[.slice A (x :: xs).length c] w fun e w' => e = .returned (.int .i64 (minF x xs)) ∧ Quiet w w' := by
  obtain ⟨l, hl⟩ : ∃ l, l = x :: xs := ⟨_, rfl⟩
  rw [← hl] at ha hn ⊢
  have h0 : 0 < l.length := by rw [hl]; simp
  have HX : Hid (minF x xs = minF x (l.drop 1)) := by show _ = _; rw [hl]; rfl
  have HL : Hid (l = x :: xs) := hl
  clear hl
  obtain ⟨a, x', rfl, -, e0, h1, -⟩ := ha.at_ h0
  obtain rfl : x' = x := by rw [HL.out] at e0; simpa using e0.symm
  clear e0
  have h1 : w.cell? a = some (.int .i64 x') := by simpa [Addr.add] using h1
  go_enter Try.func27, Try.ntmps27
  go_wp2
  go_loopw [3, 4] (fun m i wr => ∃ (k : Nat) (y : Int), 1 ≤ k ∧ k ≤ l.length ∧ i = .int .i64 k ∧ m = .int .i64 y ∧ Quiet w wr ∧ Hid (minF y (l.drop k) = minF x' xs)) (fun _ i _ => l.length - (intOf i).toNat)
  case atStart => exact ⟨1, x', Nat.le_refl _, h0, rfl, rfl, Quiet.refl w, HX.out.symm⟩
  case round =>
    obtain ⟨k, y, hk1, hk, rfl, rfl, ⟨q, rfl⟩, HR⟩ := hrel
    by_cases hlt : k < l.length
    · obtain ⟨b, z, hb, e1, -, h2, -⟩ := ha.at_ hlt
      obtain rfl := Option.some.inj hb
      have HS : Hid (minF (min y z) (l.drop (k + 1)) = minF x' xs) := by
        show _ = _
        rw [← HR.out, e1]; rfl
      clear e1 ha HR HX
      go_wp2
      go_roundw
      case rel => exact ⟨k + 1, min y z, by omega, by omega, by go_num, by rw [min_if], (by first | exact Quiet.refl _ | exact Quiet.d1 _ _ | exact Quiet.d2 _ _ _ | exact Quiet.d3 _ _ _ _ | exact Quiet.d4 _ _ _ _ _ | assumption), HS⟩
      case measure => simp [intOf]; omega
    · go_wp2
      go_ret
      refine ⟨?_, (by first | exact Quiet.refl _ | exact Quiet.d1 _ _ | exact Quiet.d2 _ _ _ | exact Quiet.d3 _ _ _ _ | exact Quiet.d4 _ _ _ _ _ | assumption)⟩
      have h := HR.out
      rw [List.drop_eq_nil_of_le (by omega)] at h
      rw [← h]; rfl

set_option maxHeartbeats 400000 in
theorem sMax_c (A : Option Addr) (c : Nat) (x : Int) (xs : List Int) (w : World) (hn : (x :: xs).length ≤ 1000000) (ha : Ints w A (x :: xs)) :
    Calls Try.prog 28 #[.slice A (x :: xs).length c] w fun e w' => e = .returned (.int .i64 (maxF x xs)) ∧ Quiet w w' := by
  obtain ⟨l, hl⟩ : ∃ l, l = x :: xs := ⟨_, rfl⟩
  rw [← hl] at ha hn ⊢
  have h0 : 0 < l.length := by rw [hl]; simp
  have HX : Hid (maxF x xs = maxF x (l.drop 1)) := by show _ = _; rw [hl]; rfl
  have HL : Hid (l = x :: xs) := hl
  clear hl
  obtain ⟨a, x', rfl, -, e0, h1, -⟩ := ha.at_ h0
  obtain rfl : x' = x := by rw [HL.out] at e0; simpa using e0.symm
  clear e0
  have h1 : w.cell? a = some (.int .i64 x') := by simpa [Addr.add] using h1
  go_enter Try.func28, Try.ntmps28
  go_wp2
  go_loopw [3, 4] (fun m i wr => ∃ (k : Nat) (y : Int), 1 ≤ k ∧ k ≤ l.length ∧ i = .int .i64 k ∧ m = .int .i64 y ∧ Quiet w wr ∧ Hid (maxF y (l.drop k) = maxF x' xs)) (fun _ i _ => l.length - (intOf i).toNat)
  case atStart => exact ⟨1, x', Nat.le_refl _, h0, rfl, rfl, Quiet.refl w, HX.out.symm⟩
  case round =>
    obtain ⟨k, y, hk1, hk, rfl, rfl, ⟨q, rfl⟩, HR⟩ := hrel
    by_cases hlt : k < l.length
    · obtain ⟨b, z, hb, e1, -, h2, -⟩ := ha.at_ hlt
      obtain rfl := Option.some.inj hb
      have HS : Hid (maxF (max y z) (l.drop (k + 1)) = maxF x' xs) := by
        show _ = _
        rw [← HR.out, e1]; rfl
      clear e1 ha HR HX
      go_wp2
      go_roundw
      case rel => exact ⟨k + 1, max y z, by omega, by omega, by go_num, by rw [max_if], (by first | exact Quiet.refl _ | exact Quiet.d1 _ _ | exact Quiet.d2 _ _ _ | exact Quiet.d3 _ _ _ _ | exact Quiet.d4 _ _ _ _ _ | assumption), HS⟩
      case measure => simp [intOf]; omega
    · go_wp2
      go_ret
      refine ⟨?_, (by first | exact Quiet.refl _ | exact Quiet.d1 _ _ | exact Quiet.d2 _ _ _ | exact Quiet.d3 _ _ _ _ | exact Quiet.d4 _ _ _ _ _ | assumption)⟩
      have h := HR.out
      rw [List.drop_eq_nil_of_le (by omega)] at h
      rw [← h]; rfl


set_option maxHeartbeats 400000 in
theorem vValid_c (A : Option Addr) (c : Nat) (xs : List Int) (w : World) (hn : xs.length ≤ 1000000) (ha : Ints w A xs) :
    Calls Try.prog 11 #[.slice A xs.length c] w fun e w' => e = .returned (.bool (validL xs)) ∧ Quiet w w' := by
  by_cases h6 : xs.length ≤ 6
  · cases xs with
    | nil =>
      go_enter Try.func11, Try.ntmps11
      go_wp2
      go_ret
      exact ⟨rfl, (by first | exact Quiet.refl _ | exact Quiet.d1 _ _ | exact Quiet.d2 _ _ _ | exact Quiet.d3 _ _ _ _ | exact Quiet.d4 _ _ _ _ _ | assumption)⟩
    | cons x xs =>
      have HV : Hid (validL (x :: xs) = (decide (0 ≤ minF x xs) && decide (maxF x xs ≤ 1099511627776))) := by
        show _ = _
        rw [all_ok_cons, validL_short _ h6 (by simp)]
      obtain ⟨l, hl⟩ : ∃ l, l = x :: xs := ⟨_, rfl⟩
      have h1 : 1 ≤ l.length := by rw [hl]; simp
      have HMn := fun W (h : Ints W A (x :: xs)) => sMin_c A c x xs W hn h
      have HMx := fun W (h : Ints W A (x :: xs)) => sMax_c A c x xs W hn h
      rw [← hl] at HMn HMx HV h6 ha hn ⊢
      have Hmn := Lib.hid HMn
      have Hmx := Lib.hid HMx
      clear HMn HMx hl
      by_cases hm : 0 ≤ minF x xs
      · have Hm : Hid (decide (0 ≤ minF x xs) = true) := decide_eq_true hm
        go_enter Try.func11, Try.ntmps11
        go_wp2_with (first
          | (go_at_call 27; refine (Hmn.out _ (by first | exact ha | exact ha.drewN _)).mono ?_; rintro e w' ⟨rfl, q, rfl⟩)
          | (go_at_call 28; refine (Hmx.out _ (by first | exact ha | exact ha.drewN _)).mono ?_; rintro e w' ⟨rfl, q, rfl⟩))
        go_ret
        exact ⟨by rw [HV.out, Hm.out]; rfl, (by first | exact Quiet.refl _ | exact Quiet.d1 _ _ | exact Quiet.d2 _ _ _ | exact Quiet.d3 _ _ _ _ | exact Quiet.d4 _ _ _ _ _ | assumption)⟩
      · have Hm : Hid (decide (0 ≤ minF x xs) = false) := decide_eq_false hm
        go_enter Try.func11, Try.ntmps11
        go_wp2_with (first
          | (go_at_call 27; refine (Hmn.out _ (by first | exact ha | exact ha.drewN _)).mono ?_; rintro e w' ⟨rfl, q, rfl⟩))
        go_ret
        exact ⟨by rw [HV.out, Hm.out]; rfl, (by first | exact Quiet.refl _ | exact Quiet.d1 _ _ | exact Quiet.d2 _ _ _ | exact Quiet.d3 _ _ _ _ | exact Quiet.d4 _ _ _ _ _ | assumption)⟩
  · have HV : Hid (validL xs = false) := by show _ = _; simp [validL, h6]
    go_enter Try.func11, Try.ntmps11
    go_wp2
    all_goals
      go_ret
      exact ⟨by rw [HV.out]; rfl, (by first | exact Quiet.refl _ | exact Quiet.d1 _ _ | exact Quiet.d2 _ _ _ | exact Quiet.d3 _ _ _ _ | exact Quiet.d4 _ _ _ _ _ | assumption)⟩

set_option maxHeartbeats 400000 in
theorem rValid_c (A : Option Addr) (c : Nat) (xs : List Int) (w : World) (hn : xs.length ≤ 1000000) (ha : Ints w A xs) :
    Calls Try.prog 12 #[.slice A xs.length c] w fun e w' => e = .returned (.bool (validL xs)) ∧ Quiet w w' := by
  have HV : Hid (validL xs = (decide (1 ≤ xs.length) && (decide (xs.length ≤ 6) && xs.all okEntry))) := rfl
  go_enter Try.func12, Try.ntmps12
  go_wp2
  go_loopw [3] (fun i wr => ∃ k : Nat, k ≤ xs.length ∧ i = .int .i64 k ∧ Quiet w wr ∧ Hid (xs.all okEntry = (xs.drop k).all okEntry)) (fun i _ => xs.length - (intOf i).toNat)
  case atStart => exact ⟨0, Nat.zero_le _, rfl, Quiet.refl w, rfl⟩
  case round =>
    obtain ⟨k, hk, rfl, ⟨q, rfl⟩, HR⟩ := hrel
    by_cases hlt : k < xs.length
    · obtain ⟨a, x, rfl, e1, -, h1, -⟩ := ha.at_ hlt
      have HS : Hid (xs.all okEntry = (okEntry x && (xs.drop (k + 1)).all okEntry)) := by
        show _ = _
        rw [HR.out, e1, List.all_cons]
      clear e1 ha HR
      by_cases hx : 0 ≤ x
      · by_cases hx2 : x ≤ 1099511627776
        · have HO : Hid (okEntry x = true) := (okEntry_iff x).2 ⟨hx, hx2⟩
          go_wp2
          go_roundw
          case rel => exact ⟨k + 1, by omega, by go_num, (by first | exact Quiet.refl _ | exact Quiet.d1 _ _ | exact Quiet.d2 _ _ _ | exact Quiet.d3 _ _ _ _ | exact Quiet.d4 _ _ _ _ _ | assumption), by show _ = _; rw [HS.out, HO.out]; rfl⟩
          case measure => simp [intOf]; omega
        · have HO : Hid (okEntry x = false) := by show _ = _; simp [okEntry, hx2]
          go_wp2
          go_ret
          exact ⟨by rw [HV.out, HS.out, HO.out]; simp, (by first | exact Quiet.refl _ | exact Quiet.d1 _ _ | exact Quiet.d2 _ _ _ | exact Quiet.d3 _ _ _ _ | exact Quiet.d4 _ _ _ _ _ | assumption)⟩
      · have HO : Hid (okEntry x = false) := by show _ = _; simp [okEntry, hx]
        go_wp2
        go_ret
        exact ⟨by rw [HV.out, HS.out, HO.out]; simp, (by first | exact Quiet.refl _ | exact Quiet.d1 _ _ | exact Quiet.d2 _ _ _ | exact Quiet.d3 _ _ _ _ | exact Quiet.d4 _ _ _ _ _ | assumption)⟩
    · have HE : Hid (xs.all okEntry = true) := by
        show _ = _
        rw [HR.out, List.drop_eq_nil_of_le (by omega)]; rfl
      go_wp2
      all_goals
        go_ret
        refine ⟨?_, (by first | exact Quiet.refl _ | exact Quiet.d1 _ _ | exact Quiet.d2 _ _ _ | exact Quiet.d3 _ _ _ _ | exact Quiet.d4 _ _ _ _ _ | assumption)⟩
        rw [HV.out, HE.out]
        simp
        first | omega | (rw [Bool.eq_iff_iff]; simp; omega)

end Go.Proofs.Ytomejdempmbbmaa
