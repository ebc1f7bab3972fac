/- Walks over package wire: the reader. -/
import Derived.Test.YtmiijlmjpaiinaaWApp2
namespace Go.Proofs.Ytmiijlmjpaiinaa
open Go.RowKit

/-- Block g is a reader of the bytes b, at offset k; f: it has failed. -/
def RS (w : World) (g : Nat) (b : List UInt8) (k : Nat) (f : Bool) : Prop :=
  ∃ A c, w.heap[g]? = some (.cells #[.slice A b.length c, .int .i64 k, .bool f] 71 (0, 0)) ∧ Rd U8 w A b ∧ k ≤ b.length ∧ b.length ≤ c ∧ b.length ≤ 1000000 ∧ ∀ ad, A = some ad → ad.block ≠ g

section
variable {w w' : World} {g : Nat} {b : List UInt8} {k : Nat} {f : Bool}
theorem RS.lt (h : RS w g b k f) : g < w.heap.size := by
  obtain ⟨A, c, h1, _⟩ := h
  exact (Array.getElem?_eq_some_iff.1 h1).1
theorem RS.le (h : RS w g b k f) : k ≤ b.length ∧ b.length ≤ 1000000 := by
  obtain ⟨A, c, _, _, h1, _, h2, _⟩ := h
  exact ⟨h1, h2⟩
theorem RS.ext (h : RS w g b k f) (hE : Ext w w') : RS w' g b k f := by
  have hl := h.lt
  obtain ⟨A, c, h1, h2, h3⟩ := h
  exact ⟨A, c, (hE.heap hl).trans h1, h2.ext hE, h3⟩
theorem RS.drewN (h : RS w g b k f) (n : Nat) : RS (w.drewN n) g b k f := h
theorem grown_setCell (w : World) (g i : Nat) (u : Value) : w.grownBy (w.setCell ⟨g, i, none⟩ u) (some g) :=
  ⟨rfl, rfl, rfl, by simp, fun j _ hj => heap_setCell_other w ⟨g, i, none⟩ j u (fun e => hj (by simp [e]))⟩
theorem grown_drewN {w w' : World} {row : Option Nat} (h : w.grownBy w' row) (n : Nat) : w.grownBy (w'.drewN n) row := ⟨h.os, h.tape, h.output, h.size, h.block⟩
theorem grown_of_drewN {w w' : World} {row : Option Nat} {n : Nat} (h : (w.drewN n).grownBy w' row) : w.grownBy w' row := ⟨h.os, h.tape, h.output, h.size, h.block⟩
theorem grown_trans {a b c : World} {row : Option Nat} (h : a.grownBy b row) (k : b.grownBy c row) : a.grownBy c row :=
  ⟨k.os.trans h.os, k.tape.trans h.tape, k.output.trans h.output, Nat.le_trans h.size k.size, fun i hi hne => (k.block i (Nat.lt_of_lt_of_le hi h.size) hne).trans (h.block i hi hne)⟩
theorem RS.set_at (h : RS w g b k f) {j : Nat} (hj : j ≤ b.length) : RS (w.setCell ⟨g, 1, none⟩ (.int .i64 j)) g b j f := by
  obtain ⟨A, c, h1, h2, _, h3⟩ := h
  exact ⟨A, c, heap_setCell_same w g 1 _ _ _ h1, h2.grown (grown_setCell w g 1 _) (fun ad e e' => h3.2.2 ad e (Option.some.inj e').symm), hj, h3⟩
theorem RS.set_failed (h : RS w g b k f) (f' : Bool) : RS (w.setCell ⟨g, 2, none⟩ (.bool f')) g b k f' := by
  obtain ⟨A, c, h1, h2, h3, h4⟩ := h
  exact ⟨A, c, heap_setCell_same w g 2 _ _ _ h1, h2.grown (grown_setCell w g 2 _) (fun ad e e' => h4.2.2 ad e (Option.some.inj e').symm), h3, h4⟩
theorem RS.set_failed' (h : RS w g b k f) {f' f'' : Bool} (e : f' = f'') : RS (w.setCell ⟨g, 2, none⟩ (.bool f')) g b k f'' := by subst e; exact h.set_failed f'
theorem RS.open_ (h : RS w g b k f) : ∃ A c, w.cell? ⟨g, 0, none⟩ = some (.slice A b.length c) ∧ w.cell? ⟨g, 1, none⟩ = some (.int .i64 k) ∧ w.cell? ⟨g, 2, none⟩ = some (.bool f) ∧
    (∀ i, w.frozen? ⟨g, i, none⟩ = false) ∧ Rd U8 w A b ∧ b.length ≤ c ∧ ∀ ad, A = some ad → ad.block ≠ g := by
  obtain ⟨A, c, h1, h2, h3, h4, h5, h6⟩ := h
  exact ⟨A, c, cell_of_row w g 0 _ _ (0, 0) h1, cell_of_row w g 1 _ _ (0, 0) h1, cell_of_row w g 2 _ _ (0, 0) h1, fun i => frozen_of_row w g i _ _ h1, h2, h4, h6⟩
end

set_option maxHeartbeats 400000 in
theorem next_fail (g : Nat) (b : List UInt8) (k n : Nat) (f : Bool) (w : World) (h : RS w g b k f) (hn : n ≤ 1000000) (hf : f = true ∨ b.length < k + n) :
    Calls Try.prog 56 #[.pointer (some ⟨g, 0, none⟩), .int .i64 n] w fun e w' => e = .returned (.slice none 0 0) ∧ RS w' g b k true ∧ w.grownBy w' (some g) := by
  obtain ⟨A, c, c0, c1, c2, hfz, hrd, hbc, hA⟩ := h.open_
  have hle := h.le
  have f2 := hfz 2
  have HR := hide h
  clear hfz h
  cases f with
  | true =>
    clear hf
    go_enter Try.func56, Try.ntmps56
    go_wp2
    go_quiet (fail)
    go_wp2
    go_ret
    exact ⟨rfl, (HR.out.drewN _).set_failed true, grown_trans (grown_drewN (World.grownBy.refl _ _) _) (grown_setCell _ g 2 _)⟩
  | false =>
    have hlt : b.length < k + n := by simpa using hf
    clear hf
    go_enter Try.func56, Try.ntmps56
    go_wp2
    go_quiet (fail)
    go_wp2
    go_ret
    exact ⟨rfl, (HR.out.drewN _).set_failed true, grown_trans (grown_drewN (World.grownBy.refl _ _) _) (grown_setCell _ g 2 _)⟩

/-- What next leaves: n bytes from k on, and the reader behind them. -/
def NextPost (g : Nat) (b : List UInt8) (k n : Nat) (w : World) (e : Ending) (w' : World) : Prop :=
  ∃ A c, e = .returned (.slice A n c) ∧ RS w' g b (k + n) false ∧ Rd U8 w' A ((b.drop k).take n) ∧ (∀ ad, A = some ad → ad.block ≠ g) ∧ w.grownBy w' (some g)

set_option maxHeartbeats 400000 in
theorem next_ok (g : Nat) (b : List UInt8) (k n : Nat) (w : World) (h : RS w g b k false) (hn : k + n ≤ b.length) :
    Calls Try.prog 56 #[.pointer (some ⟨g, 0, none⟩), .int .i64 n] w (NextPost g b k n w) := by
  obtain ⟨A, c, c0, c1, c2, hfz, hrd, hbc, hA⟩ := h.open_
  have hle := h.le
  have f1 := hfz 1
  have HR := hide h
  clear hfz h
  have hge : ¬ b.length < k + n := by omega
  go_enter Try.func56, Try.ntmps56
  go_wp2
  go_quiet (fail)
  go_wp2
  have hR1 : RS ((w.drewN nq).setCell ⟨g, 1, none⟩ (.int .i64 ((k : Int) + n))) g b (k + n) false := (HR.out.drewN nq).set_at (j := k + n) hn
  have hG1 : w.grownBy ((w.drewN nq).setCell ⟨g, 1, none⟩ (.int .i64 ((k : Int) + n))) (some g) := grown_trans (grown_drewN (World.grownBy.refl _ _) _) (grown_setCell _ g 1 _)
  generalize (w.drewN nq).setCell ⟨g, 1, none⟩ (.int .i64 ((k : Int) + n)) = W1 at *
  clear c0 c1 c2 f1 hrd hbc hA HR
  obtain ⟨A, c, c0, c1, c2, -, hrd, hbc, hA⟩ := hR1.open_
  have HR := hide hR1
  have HG := hide hG1
  have HD := hide hrd
  have HA := hide hA
  clear hR1 hG1 hrd hA
  have e1 : ((k + n : Nat) : Int) = (k : Int) + n := by omega
  rw [e1] at c1
  have s1 : IntKind.i64.wrap ((k : Int) + n - n) = k := by rw [show (k : Int) + n - n = k by omega]; exact IntWalk.i64_in _ (by omega)
  clear e1
  go_quiet (fail)
  go_wp2
  · go_ret
    have hcut := (HD.out.cut (k := k) (cap := c) (by omega) hbc).first (k := n) (by rw [List.length_drop]; omega)
    rw [if_pos (by assumption)] at hcut
    exact ⟨_, _, rfl, HR.out.drewN _, hcut.drewN _, HA.out, grown_drewN HG.out _⟩
  · go_ret
    have hcut := (HD.out.cut (k := k) (cap := c) (by omega) hbc).first (k := n) (by rw [List.length_drop]; omega)
    rw [if_neg (by assumption)] at hcut
    refine ⟨_, _, rfl, HR.out.drewN _, hcut.drewN _, fun ad e => ?_, grown_drewN HG.out _⟩
    rw [Option.map_eq_some_iff] at e
    obtain ⟨a0, h0, rfl⟩ := e
    rw [block_of_add]
    exact HA.out a0 h0

/-- What reading an integer leaves. -/
def IntPost (g : Nat) (b : List UInt8) (k : Nat) (w : World) (e : Ending) (w' : World) : Prop :=
  w.grownBy w' (some g) ∧ match rdI (b.drop k) with
  | some (n, r) => e = .returned (.int .i64 n) ∧ r.length ≤ b.length - k ∧ b.drop (b.length - r.length) = r ∧ RS w' g b (b.length - r.length) false
  | none => ∃ z j, e = .returned (.int .i64 z) ∧ RS w' g b j true

theorem IntPost.good {g : Nat} {b : List UInt8} {k0 k : Nat} {w w' : World} {e : Ending} {n : Int} (h : rdI (b.drop k0) = some (n, b.drop (k0 + k + 1))) (he : e = .returned (.int .i64 n)) (hr : RS w' g b (k0 + k + 1) false) (hg : w.grownBy w' (some g)) :
    IntPost g b k0 w e w' := by
  have hl := hr.le.1
  refine ⟨hg, ?_⟩
  rw [h]
  have e1 : b.length - (b.drop (k0 + k + 1)).length = k0 + k + 1 := by rw [List.length_drop]; omega
  refine ⟨he, by rw [List.length_drop]; omega, by rw [e1], ?_⟩
  rw [e1]
  exact hr
theorem IntPost.bad {g : Nat} {b : List UInt8} {k0 j : Nat} {w w' : World} {e : Ending} {z : Int} (h : rdI (b.drop k0) = none) (he : e = .returned (.int .i64 z)) (hr : RS w' g b j true) (hg : w.grownBy w' (some g)) :
    IntPost g b k0 w e w' := by
  refine ⟨hg, ?_⟩
  rw [h]
  exact ⟨z, j, he, hr⟩

set_option maxHeartbeats 400000 in
theorem integer_failed (g : Nat) (b : List UInt8) (k : Nat) (w : World) (h : RS w g b k true) :
    Calls Try.prog 40 #[.pointer (some ⟨g, 0, none⟩)] w fun e w' => e = .returned (.int .i64 0) ∧ RS w' g b k true ∧ w.grownBy w' (some g) := by
  go_enter Try.func40, Try.ntmps40
  go_wp2
  refine wp_loop_rounds 1 ?_
  rw [rounds_succ]
  go_wp2_with fail
  refine (next_fail g b k 1 true w h (by omega) (.inl rfl)).mono ?_
  rintro e w1 ⟨rfl, h1, hg⟩
  obtain ⟨A, c, c0, c1, c2, hfz, hrd, hbc, hA⟩ := h1.open_
  go_wp2
  go_ret
  exact ⟨rfl, h1, hg⟩

set_option maxHeartbeats 4000000 in
set_option maxRecDepth 100000 in
theorem integer_c (g : Nat) (b : List UInt8) (k0 : Nat) (w : World) (h : RS w g b k0 false) :
    Calls Try.prog 40 #[.pointer (some ⟨g, 0, none⟩)] w (IntPost g b k0 w) := by
  have hle := h.le
  go_enter Try.func40, Try.ntmps40
  go_wp2
  go_loopw [3, 6] (fun u i wr => ∃ (k acc : Nat), k ≤ 10 ∧ i = .int .i64 k ∧ u = .int .u64 acc ∧ Hid (acc < 128 ^ k) ∧ k0 + k ≤ b.length ∧ RS wr g b (k0 + k) false ∧ w.grownBy wr (some g) ∧
      Hid (rdU 0 (b.drop k0) = (rdU k (b.drop (k0 + k))).map fun p => (acc + 128 ^ k * p.1, p.2))) (fun _ i _ => 10 - (intOf i).toNat)
  case atStart => exact ⟨0, 0, by omega, rfl, rfl, by show _ < _; simp, by omega, h, World.grownBy.refl _ _, by show _ = _; simp⟩
  case round =>
    clear h
    obtain ⟨k, acc, hk, rfl, rfl, HA, hkb, h, hg, HE⟩ := hrel
    by_cases h10 : k < 10
    · by_cases hend : k0 + k < b.length
      · obtain ⟨c, hcd, hck⟩ : ∃ c, b.drop (k0 + k) = c :: b.drop (k0 + k + 1) ∧ (b.drop (k0 + k)).take 1 = [c] :=
          ⟨b[k0 + k], List.drop_eq_getElem_cons hend, by rw [List.drop_eq_getElem_cons hend]; rfl⟩
        go_wp2_with fail
        refine (next_ok g b (k0 + k) 1 wr h (by omega)).mono ?_
        rintro e w1 ⟨A, cp, rfl, h1, hrd, hA, hg1⟩
        rw [hck] at hrd
        obtain ⟨ad, x, rfl, -, ex, hc0, -⟩ := hrd.at_ (k := 0) (by simp)
        obtain rfl : x = c := by simpa using ex.symm
        have hc0 : w1.cell? ad = some (.int .u8 (x.toNat : Int)) := by simpa [Addr.add, U8] using hc0
        obtain ⟨m, hmx⟩ : ∃ m, m = x.toNat := ⟨_, rfl⟩
        have HM := hide hmx
        have hm256 : m < 256 := by rw [hmx]; exact x.toNat_lt
        rw [← hmx] at hc0
        obtain ⟨A2, c2, d0, d1, d2, hfz, -, -, -⟩ := h1.open_
        have f2 := hfz 2
        obtain ⟨acc', hacc1, hacc4, hacc3, hacc2⟩ := acc_bits h10 HA.out hm256
        have HR1 := hide h1
        have HG := hide (grown_trans hg hg1)
        clear hfz hmx hck hrd hA ex h1 hg hg1 h
        by_cases hm : m < 128
        · by_cases hz : 0 < m
          · by_cases h9 : k < 9
            · have h9' : ¬ 9 ≤ k := by omega
              have HRI : Hid (rdI (b.drop k0) = some (unzig acc', b.drop (k0 + k + 1))) := by
                show _ = _
                unfold rdI
                rw [HE.out, hcd, rdU_good (by omega) (by rw [← HM.out]; omega) (by rw [← HM.out]; omega)]
                simp only [Option.map_some, ← HM.out]
                rw [hacc2 (by omega), Nat.mod_eq_of_lt (by omega)]
              have HUZ := hide (unzig_bits hacc3)
              have hacc := hacc1
              clear hacc1 hacc2 hacc3 hacc4 hcd HE
              go_wp2
              go_ret
              exact IntPost.good HRI.out (by rw [HUZ.out]; rfl) (HR1.out.set_failed' (by first | rfl | (simp; omega))) (grown_trans HG.out (grown_setCell _ _ _ _))
            · by_cases h1 : 1 < m
              · have h9' : 9 ≤ k := by omega
                have HRI : Hid (rdI (b.drop k0) = none) := by
                  show _ = _
                  unfold rdI
                  rw [HE.out, hcd, rdU_bad (by omega) (by rw [← HM.out]; omega) (by rw [← HM.out]; omega)]
                  rfl
                have hacc := hacc1
                clear hacc1 hacc2 hacc3 hacc4 hcd HE
                go_wp2
                go_ret
                exact IntPost.bad HRI.out rfl (HR1.out.set_failed' (by first | rfl | (simp; omega))) (grown_trans HG.out (grown_setCell _ _ _ _))
              · have h9' : 9 ≤ k := by omega
                have HRI : Hid (rdI (b.drop k0) = some (unzig acc', b.drop (k0 + k + 1))) := by
                  show _ = _
                  unfold rdI
                  rw [HE.out, hcd, rdU_good (by omega) (by rw [← HM.out]; omega) (by rw [← HM.out]; omega)]
                  simp only [Option.map_some, ← HM.out]
                  rw [hacc2 (by omega), Nat.mod_eq_of_lt (by omega)]
                have HUZ := hide (unzig_bits hacc3)
                have hacc := hacc1
                clear hacc1 hacc2 hacc3 hacc4 hcd HE
                go_wp2
                go_ret
                exact IntPost.good HRI.out (by rw [HUZ.out]; rfl) (HR1.out.set_failed' (by first | rfl | (simp; omega))) (grown_trans HG.out (grown_setCell _ _ _ _))
          · have hz' : m ≤ 0 := by omega
            by_cases h0 : 0 < k
            · skip
              have HRI : Hid (rdI (b.drop k0) = none) := by
                show _ = _
                unfold rdI
                rw [HE.out, hcd, rdU_bad (by omega) (by rw [← HM.out]; omega) (by rw [← HM.out]; omega)]
                rfl
              have hacc := hacc1
              clear hacc1 hacc2 hacc3 hacc4 hcd HE
              go_wp2
              go_ret
              exact IntPost.bad HRI.out rfl (HR1.out.set_failed' (by first | rfl | (simp; omega))) (grown_trans HG.out (grown_setCell _ _ _ _))
            · have h0' : k ≤ 0 := by omega
              have HRI : Hid (rdI (b.drop k0) = some (unzig acc', b.drop (k0 + k + 1))) := by
                show _ = _
                unfold rdI
                rw [HE.out, hcd, rdU_good (by omega) (by rw [← HM.out]; omega) (by rw [← HM.out]; omega)]
                simp only [Option.map_some, ← HM.out]
                rw [hacc2 (by omega), Nat.mod_eq_of_lt (by omega)]
              have HUZ := hide (unzig_bits hacc3)
              have hacc := hacc1
              clear hacc1 hacc2 hacc3 hacc4 hcd HE
              go_wp2
              go_ret
              exact IntPost.good HRI.out (by rw [HUZ.out]; rfl) (HR1.out.set_failed' (by first | rfl | (simp; omega))) (grown_trans HG.out (grown_setCell _ _ _ _))
        · have HNE : Hid (rdU 0 (b.drop k0) = (rdU (k + 1) (b.drop (k0 + (k + 1)))).map fun p => (acc' + 128 ^ (k + 1) * p.1, p.2)) := by
            show _ = _
            rw [HE.out, hcd, rdU_more (by omega) (by rw [← HM.out]; omega), ← HM.out]
            rcases Nat.lt_or_ge k 9 with h9 | h9
            · rw [hacc2 (.inl h9), Option.map_map]
              congr 1
              funext p
              simp only [Function.comp]
              congr 1
              have e : m % 128 = m - 128 := by omega
              rw [e, Nat.pow_succ, Nat.mul_add, Nat.mul_assoc, Nat.add_assoc]
            · have h10' : k = 9 := by omega
              subst h10'
              rw [rdU_ten]
              rfl
          have HA4 := hide hacc4
          have hacc := hacc1
          have e1 : k0 + (k + 1) = k0 + k + 1 := by omega
          have HR2 : Hid (RS w1 g b (k0 + (k + 1)) false) := by show RS _ _ _ _ _; rw [e1]; exact HR1.out
          clear hacc1 hacc2 hacc3 hacc4 hcd HE e1 HR1
          go_wp2
          go_roundw
          case rel => exact ⟨k + 1, acc', by omega, by go_num, rfl, HA4, by omega, HR2.out, HG.out, HNE⟩
          case measure => simp [intOf]; omega
      · have hend' : b.length < k0 + k + 1 := by omega
        have HRI : Hid (rdI (b.drop k0) = none) := by
          show _ = _
          unfold rdI
          rw [HE.out, List.drop_eq_nil_of_le (by omega)]
          simp [rdU]
        clear HE
        go_wp2_with fail
        refine (next_fail g b (k0 + k) 1 false wr h (by omega) (.inr hend')).mono ?_
        rintro e w1 ⟨rfl, h1, hg1⟩
        obtain ⟨A2, c2, d0, d1, d2, hfz, -, -, -⟩ := h1.open_
        have HR1 := hide h1
        have HG := hide (grown_trans hg hg1)
        clear hfz h1 hg hg1 h
        go_wp2
        go_ret
        exact IntPost.bad HRI.out rfl HR1.out HG.out
    · have HRI : Hid (rdI (b.drop k0) = none) := by
        show _ = _
        unfold rdI
        have : k = 10 := by omega
        subst this
        rw [HE.out, rdU_ten']
        rfl
      obtain ⟨A2, c2, d0, d1, d2, hfz, -, -, -⟩ := h.open_
      have f2 := hfz 2
      have HR1 := hide h
      have HG := hide hg
      clear hfz h hg HE
      go_wp2
      go_ret
      exact IntPost.bad HRI.out rfl (HR1.out.set_failed' (by first | rfl | (simp; omega))) (grown_trans HG.out (grown_setCell _ _ _ _))

end Go.Proofs.Ytmiijlmjpaiinaa
