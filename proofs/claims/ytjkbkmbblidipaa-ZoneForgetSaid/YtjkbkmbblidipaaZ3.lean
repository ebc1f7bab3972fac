/- Zones: the small functions. -/
import Derived.Test.YtjkbkmbblidipaaP
import Derived.Test.YtjkbkmbblidipaaZ2
namespace Go.Proofs.Ytjkbkmbblidipaa
open Go.RowKit

set_option maxRecDepth 100000 in
@[reducible] def znC (z : Zn) (A : Option Addr) (ca : Nat) : List Value := [.int .i64 z.N, .slice A z.b.length ca]
theorem full_c (i j : Nat) (H : Heap) : CallsH Try.prog 42 [.int .i64 i, .int .i64 j] H fun v H' => v = .int .i64 (ful i j) ∧ H' = H := by
  refine callsH_of Try.func42 rfl Try.ntmps42 (Nat.le_of_ble_eq_true rfl) ?_
  refine wpSeq fun F1 hF1 => ?_
  refine wpRegion ?_
  refine seqQ rfl rfl (yAssign (v := .int _ _) rfl rfl) ?_
  refine seqNil ?_
  refine hF1 _ _ ?_; clear hF1
  refine wpSeq fun F2 hF2 => ?_
  refine wpBlock ?_
  refine wpSeq fun F3 hF3 => ?_
  refine wpRegion ?_
  refine seqQ rfl rfl (yMove (v := .int _ _) rfl rfl) ?_
  refine seqQ rfl rfl (yMove (v := .int _ _) rfl rfl) ?_
  refine seqQ rfl rfl (yEql rfl rfl rfl) ?_
  refine seqQ rfl rfl (yAssign (v := .bool _) rfl rfl) ?_
  refine seqNil ?_
  refine hF3 _ _ ?_; clear hF3
  -- if t5
  refine wpIf rfl (fun h1 => ?_) (fun h1 => ?_)
  · skip
    refine wpSeq fun F4 hF4 => ?_
    refine wpRegion ?_
    refine seqQ rfl rfl (yAssign (v := .int _ _) rfl rfl) ?_
    refine seqNil ?_
    refine hF4 _ _ ?_; clear hF4
    -- ret
    refine wpRet (fin1 (v := .int _ _) rfl rfl ?_)
    exact ⟨by congr 1; grind [ful], rfl⟩
  · skip
    refine wpSeq fun F5 hF5 => ?_
    refine wpRegion ?_
    refine seqQ rfl rfl (yMove (v := .int _ _) rfl rfl) ?_
    refine seqQ rfl rfl (yEql rfl rfl rfl) ?_
    -- guard t12
    refine seqMeet 6 [12, 13, 14, 15] 15 (decide ((i : Int) = 0 ∨ (j : Int) = 0)) (fun hm6 => ?_) (fun J6 => ?_)
    · skip
      first | refine seqG rfl rfl rfl rfl (fun h12 => ?_) (fun h12 => ?_) | refine seqGB rfl rfl rfl rfl (fun h12 => ?_) (fun h12 => ?_)
      · skip
        refine seqU rfl rfl ?_
        refine seqU rfl rfl ?_
        refine seqQ rfl rfl (yPickT (v := .bool _) rfl rfl rfl) ?_
        exact hm6 _ (by repeat (first | (with_reducible exact Agree.refl _ _) | refine Agree.upd ?_ rfl | refine Agree.over ?_ rfl)) (by show Value.bool _ = Value.bool _; congr 1; grind)
      · skip
        refine seqQ rfl rfl (yMove (v := .int _ _) rfl rfl) ?_
        refine seqQ rfl rfl (yEql rfl rfl rfl) ?_
        refine seqQ rfl rfl (yPickF (v := .bool _) rfl rfl rfl) ?_
        exact hm6 _ (by repeat (first | (with_reducible exact Agree.refl _ _) | refine Agree.upd ?_ rfl | refine Agree.over ?_ rfl)) (by show Value.bool _ = Value.bool _; congr 1; grind)
    refine seqQ rfl rfl (yAssign (v := .bool _) rfl rfl) ?_
    refine seqNil ?_
    refine hF5 _ _ ?_; clear hF5
    -- if t9
    refine wpIf rfl (fun h2 => ?_) (fun h2 => ?_)
    · skip
      refine wpSeq fun F7 hF7 => ?_
      refine wpRegion ?_
      refine seqQ rfl rfl (yAssign (v := .int _ _) rfl rfl) ?_
      refine seqNil ?_
      refine hF7 _ _ ?_; clear hF7
      -- ret
      refine wpRet (fin1 (v := .int _ _) rfl rfl ?_)
      exact ⟨by congr 1; grind [ful], rfl⟩
    · skip
      refine wpSkip ?_
      refine hF2 _ _ ?_; clear hF2
      refine wpSeq fun F8 hF8 => ?_
      refine wpRegion ?_
      refine seqQ rfl rfl (yAssign (v := .int _ _) rfl rfl) ?_
      refine seqNil ?_
      refine hF8 _ _ ?_; clear hF8
      -- ret
      refine wpRet (fin1 (v := .int _ _) rfl rfl ?_)
      exact ⟨by congr 1; grind [ful], rfl⟩
set_option maxRecDepth 100000 in
theorem rfull_c (i j : Nat) (H : Heap) : CallsH Try.prog 43 [.int .i64 i, .int .i64 j] H fun v H' => v = .int .i64 (ful i j) ∧ H' = H := by
  refine callsH_of Try.func43 rfl Try.ntmps43 (Nat.le_of_ble_eq_true rfl) ?_
  refine wpSeq fun F1 hF1 => ?_
  refine wpRegion ?_
  refine seqQ rfl rfl (yAssign (v := .int _ _) rfl rfl) ?_
  refine seqNil ?_
  refine hF1 _ _ ?_; clear hF1
  refine wpSeq fun F2 hF2 => ?_
  refine wpBlock ?_
  refine wpSeq fun F3 hF3 => ?_
  refine wpRegion ?_
  refine seqQ rfl rfl (yMove (v := .int _ _) rfl rfl) ?_
  refine seqQ rfl rfl (yMove (v := .int _ _) rfl rfl) ?_
  refine seqQ rfl rfl (yEql rfl rfl rfl) ?_
  refine seqQ rfl rfl (yAssign (v := .bool _) rfl rfl) ?_
  refine seqNil ?_
  refine hF3 _ _ ?_; clear hF3
  -- if t5
  refine wpIf rfl (fun h1 => ?_) (fun h1 => ?_)
  · skip
    refine wpSeq fun F4 hF4 => ?_
    refine wpRegion ?_
    refine seqQ rfl rfl (yAssign (v := .int _ _) rfl rfl) ?_
    refine seqNil ?_
    refine hF4 _ _ ?_; clear hF4
    -- ret
    refine wpRet (fin1 (v := .int _ _) rfl rfl ?_)
    exact ⟨by congr 1; grind [ful], rfl⟩
  · skip
    refine wpSeq fun F5 hF5 => ?_
    refine wpRegion ?_
    refine seqQ rfl rfl (yMove (v := .int _ _) rfl rfl) ?_
    refine seqQ rfl rfl (yEql rfl rfl rfl) ?_
    -- guard t12
    refine seqMeet 6 [12, 13, 14, 15] 15 (decide ((i : Int) = 0 ∨ (j : Int) = 0)) (fun hm6 => ?_) (fun J6 => ?_)
    · skip
      first | refine seqG rfl rfl rfl rfl (fun h12 => ?_) (fun h12 => ?_) | refine seqGB rfl rfl rfl rfl (fun h12 => ?_) (fun h12 => ?_)
      · skip
        refine seqU rfl rfl ?_
        refine seqU rfl rfl ?_
        refine seqQ rfl rfl (yPickT (v := .bool _) rfl rfl rfl) ?_
        exact hm6 _ (by repeat (first | (with_reducible exact Agree.refl _ _) | refine Agree.upd ?_ rfl | refine Agree.over ?_ rfl)) (by show Value.bool _ = Value.bool _; congr 1; grind)
      · skip
        refine seqQ rfl rfl (yMove (v := .int _ _) rfl rfl) ?_
        refine seqQ rfl rfl (yEql rfl rfl rfl) ?_
        refine seqQ rfl rfl (yPickF (v := .bool _) rfl rfl rfl) ?_
        exact hm6 _ (by repeat (first | (with_reducible exact Agree.refl _ _) | refine Agree.upd ?_ rfl | refine Agree.over ?_ rfl)) (by show Value.bool _ = Value.bool _; congr 1; grind)
    refine seqQ rfl rfl (yAssign (v := .bool _) rfl rfl) ?_
    refine seqNil ?_
    refine hF5 _ _ ?_; clear hF5
    -- if t9
    refine wpIf rfl (fun h2 => ?_) (fun h2 => ?_)
    · skip
      refine wpSeq fun F7 hF7 => ?_
      refine wpRegion ?_
      refine seqQ rfl rfl (yAssign (v := .int _ _) rfl rfl) ?_
      refine seqNil ?_
      refine hF7 _ _ ?_; clear hF7
      -- ret
      refine wpRet (fin1 (v := .int _ _) rfl rfl ?_)
      exact ⟨by congr 1; grind [ful], rfl⟩
    · skip
      refine wpSkip ?_
      refine hF2 _ _ ?_; clear hF2
      refine wpSeq fun F8 hF8 => ?_
      refine wpRegion ?_
      refine seqQ rfl rfl (yAssign (v := .int _ _) rfl rfl) ?_
      refine seqNil ?_
      refine hF8 _ _ ?_; clear hF8
      -- ret
      refine wpRet (fin1 (v := .int _ _) rfl rfl ?_)
      exact ⟨by congr 1; grind [ful], rfl⟩
set_option maxRecDepth 100000 in
theorem take_all {α : Type} {l : List α} {P : α → Prop} {k : Nat} (hk : k < l.length) (h : ∀ x ∈ l.take k, P x) (h1 : P l[k]) : ∀ x ∈ l.take (k + 1), P x := by
  rw [List.take_succ_eq_append_getElem hk]
  intro x hx
  rcases List.mem_append.1 hx with hx | hx
  · exact h x hx
  · simp at hx; subst hx; exact h1
set_option maxRecDepth 100000 in
theorem min_c (A : Option Addr) (ca : Nat) (l : List Int) (H : Heap) (hA : Rd eInt H A l) (h0 : 0 < l.length) (hl : l.length ≤ 1000000000) :
    CallsH Try.prog 48 [.slice A l.length ca] H fun v H' => (∃ m, v = .int .i64 m ∧ m ∈ l ∧ ∀ x ∈ l, m ≤ x) ∧ H' = H := by
  obtain ⟨p, rfl, hp0⟩ := hA.at1 h0
  refine callsH_of Try.func48 rfl Try.ntmps48 (Nat.le_of_ble_eq_true rfl) ?_
  refine wpSeq fun F1 hF1 => ?_
  refine wpRegion ?_
  refine seqQ rfl rfl (yAssign (v := .int _ _) rfl rfl) ?_
  refine seqNil ?_
  refine hF1 _ _ ?_; clear hF1
  refine wpSeq fun F2 hF2 => ?_
  refine wpSeq fun F3 hF3 => ?_
  refine wpRegion ?_
  refine seqQ rfl rfl (yMove (v := .slice _ _ _) rfl rfl) ?_
  refine seqQ rfl rfl (yLen rfl Try.underlying22 rfl) ?_
  refine seqQ rfl rfl (yLss rfl rfl rfl) ?_
  refine seqNil ?_
  refine hF3 _ _ ?_; clear hF3
  -- if t7
  refine wpIf rfl (fun h1 => ?_) (fun h1 => ?_)
  · skip
    omega
  · skip
    refine wpSkip ?_
    refine hF2 _ _ ?_; clear hF2
    refine wpSeq fun F4 hF4 => ?_
    refine wpRegion ?_
    refine seqQ rfl rfl (yMove (v := .slice _ _ _) rfl rfl) ?_
    refine seqQ rfl rfl (yIdx1 rfl Try.underlying22 Try.sizeOf3 rfl rfl (show (0 : Int) = ((0 : Nat) : Int) from rfl) h0) ?_
    refine seqQ rfl rfl (yLoad rfl Try.underlying3 rfl rfl hp0) ?_
    refine seqQ rfl rfl (yAssign (v := .int _ _) rfl rfl) ?_
    refine seqNil ?_
    refine hF4 _ _ ?_; clear hF4
    refine wpSeq fun F5 hF5 => ?_
    refine wpSeq fun F6 hF6 => ?_
    refine wpRegion ?_
    refine seqQ rfl rfl (yAssign (v := .int _ _) rfl rfl) ?_
    refine seqNil ?_
    refine hF6 _ _ ?_; clear hF6
    -- loop
    refine wpBlock ?_
    refine wpLoopS [3, 4, 12, 13, 14, 15, 16, 17, 18, 19, 20, 21, 22, 23] (fun x : Nat × Int => [(4, .int .i64 x.1), (3, .int .i64 x.2)]) (fun x H' => x.1 ≤ l.length ∧ x.2 ∈ l ∧ (∀ y ∈ l.take x.1, x.2 ≤ y) ∧ H' = H) (fun x => l.length - x.1) (1, l[0]) ⟨rfl, rfl, trivial⟩ ⟨h0, List.getElem_mem h0, take_all h0 (by simp) (Int.le_refl _), rfl⟩ ?_
    rintro ⟨k, m⟩ J H' ⟨hk, hm, hle, rfl⟩
    dsimp only at hk hm hle
    refine wpSeq fun F7 hF7 => ?_
    refine wpSeq fun F8 hF8 => ?_
    refine wpRegion ?_
    refine seqQ rfl rfl (yMove (v := .int _ _) rfl rfl) ?_
    refine seqQ rfl rfl (yMove (v := .slice _ _ _) rfl rfl) ?_
    refine seqQ rfl rfl (yLen rfl Try.underlying22 rfl) ?_
    refine seqQ rfl rfl (yLss rfl rfl rfl) ?_
    refine seqNil ?_
    refine hF8 _ _ ?_; clear hF8
    -- if t15
    refine wpIf rfl (fun hlt => ?_) (fun hlt => ?_)
    · skip
      have hk : k < l.length := by omega
      obtain ⟨q, e, hp⟩ := hA.at1 hk
      obtain rfl := Option.some.inj e
      refine wpSkip ?_
      refine hF7 _ _ ?_; clear hF7
      refine wpSeq fun F9 hF9 => ?_
      refine wpBlock ?_
      refine wpRegion ?_
      refine seqQ rfl rfl (yMove (v := .int _ _) rfl rfl) ?_
      refine seqQ rfl rfl (yMove (v := .slice _ _ _) rfl rfl) ?_
      refine seqQ rfl rfl (yMove (v := .int _ _) rfl rfl) ?_
      refine seqQ rfl rfl (yIdx1 rfl Try.underlying22 Try.sizeOf3 rfl rfl rfl (by omega)) ?_
      refine seqQ rfl rfl (yLoad rfl Try.underlying3 rfl rfl hp) ?_
      refine seqQ rfl rfl (yMin rfl rfl rfl) ?_
      refine seqQ rfl rfl (yAssign (v := .int _ _) rfl rfl) ?_
      refine seqNil ?_
      refine hF9 _ _ ?_; clear hF9
      refine wpRegion ?_
      refine seqQ rfl rfl (yMove (v := .int _ _) rfl rfl) ?_
      refine seqQ rfl rfl (yAdd rfl rfl rfl (by unfold In64; omega)) ?_
      refine seqQ rfl rfl (yAssign (v := .int _ _) rfl rfl) ?_
      refine seqNil ?_
      -- end loop
      exact loopEnd (k + 1, min m l[k]) (by repeat (first | (with_reducible exact Agree.refl _ _) | refine Agree.upd ?_ rfl | refine Agree.over ?_ rfl)) (by dsimp only; omega) ⟨rfl, rfl, trivial⟩ ⟨hk, by rcases (show min m l[k] = m ∨ min m l[k] = l[k] by omega) with h | h <;> (show min m l[k] ∈ l; rw [h]) <;> first | exact hm | exact List.getElem_mem hk, take_all hk (fun y hy => by have := hle y hy; omega) (by dsimp only; omega), rfl⟩
    · skip
      refine wpExit ?_
      refine hF5 _ _ ?_; clear hF5
      refine wpSeq fun F10 hF10 => ?_
      refine wpRegion ?_
      refine seqQ rfl rfl (yMove (v := .int _ _) rfl rfl) ?_
      refine seqQ rfl rfl (yAssign (v := .int _ _) rfl rfl) ?_
      refine seqNil ?_
      refine hF10 _ _ ?_; clear hF10
      -- ret
      refine wpRet (fin1 (v := .int _ _) rfl rfl ?_)
      refine ⟨⟨m, rfl, hm, fun x hx => hle x (by rw [List.take_of_length_le (by omega)]; exact hx)⟩, rfl⟩
set_option maxRecDepth 100000 in
theorem max_c (A : Option Addr) (ca : Nat) (l : List Int) (H : Heap) (hA : Rd eInt H A l) (h0 : 0 < l.length) (hl : l.length ≤ 1000000000) :
    CallsH Try.prog 49 [.slice A l.length ca] H fun v H' => (∃ m, v = .int .i64 m ∧ m ∈ l ∧ ∀ x ∈ l, x ≤ m) ∧ H' = H := by
  obtain ⟨p, rfl, hp0⟩ := hA.at1 h0
  refine callsH_of Try.func49 rfl Try.ntmps49 (Nat.le_of_ble_eq_true rfl) ?_
  refine wpSeq fun F1 hF1 => ?_
  refine wpRegion ?_
  refine seqQ rfl rfl (yAssign (v := .int _ _) rfl rfl) ?_
  refine seqNil ?_
  refine hF1 _ _ ?_; clear hF1
  refine wpSeq fun F2 hF2 => ?_
  refine wpSeq fun F3 hF3 => ?_
  refine wpRegion ?_
  refine seqQ rfl rfl (yMove (v := .slice _ _ _) rfl rfl) ?_
  refine seqQ rfl rfl (yLen rfl Try.underlying22 rfl) ?_
  refine seqQ rfl rfl (yLss rfl rfl rfl) ?_
  refine seqNil ?_
  refine hF3 _ _ ?_; clear hF3
  -- if t7
  refine wpIf rfl (fun h1 => ?_) (fun h1 => ?_)
  · skip
    omega
  · skip
    refine wpSkip ?_
    refine hF2 _ _ ?_; clear hF2
    refine wpSeq fun F4 hF4 => ?_
    refine wpRegion ?_
    refine seqQ rfl rfl (yMove (v := .slice _ _ _) rfl rfl) ?_
    refine seqQ rfl rfl (yIdx1 rfl Try.underlying22 Try.sizeOf3 rfl rfl (show (0 : Int) = ((0 : Nat) : Int) from rfl) h0) ?_
    refine seqQ rfl rfl (yLoad rfl Try.underlying3 rfl rfl hp0) ?_
    refine seqQ rfl rfl (yAssign (v := .int _ _) rfl rfl) ?_
    refine seqNil ?_
    refine hF4 _ _ ?_; clear hF4
    refine wpSeq fun F5 hF5 => ?_
    refine wpSeq fun F6 hF6 => ?_
    refine wpRegion ?_
    refine seqQ rfl rfl (yAssign (v := .int _ _) rfl rfl) ?_
    refine seqNil ?_
    refine hF6 _ _ ?_; clear hF6
    -- loop
    refine wpBlock ?_
    refine wpLoopS [3, 4, 12, 13, 14, 15, 16, 17, 18, 19, 20, 21, 22, 23] (fun x : Nat × Int => [(4, .int .i64 x.1), (3, .int .i64 x.2)]) (fun x H' => x.1 ≤ l.length ∧ x.2 ∈ l ∧ (∀ y ∈ l.take x.1, y ≤ x.2) ∧ H' = H) (fun x => l.length - x.1) (1, l[0]) ⟨rfl, rfl, trivial⟩ ⟨h0, List.getElem_mem h0, take_all h0 (by simp) (Int.le_refl _), rfl⟩ ?_
    rintro ⟨k, m⟩ J H' ⟨hk, hm, hle, rfl⟩
    dsimp only at hk hm hle
    refine wpSeq fun F7 hF7 => ?_
    refine wpSeq fun F8 hF8 => ?_
    refine wpRegion ?_
    refine seqQ rfl rfl (yMove (v := .int _ _) rfl rfl) ?_
    refine seqQ rfl rfl (yMove (v := .slice _ _ _) rfl rfl) ?_
    refine seqQ rfl rfl (yLen rfl Try.underlying22 rfl) ?_
    refine seqQ rfl rfl (yLss rfl rfl rfl) ?_
    refine seqNil ?_
    refine hF8 _ _ ?_; clear hF8
    -- if t15
    refine wpIf rfl (fun hlt => ?_) (fun hlt => ?_)
    · skip
      have hk : k < l.length := by omega
      obtain ⟨q, e, hp⟩ := hA.at1 hk
      obtain rfl := Option.some.inj e
      refine wpSkip ?_
      refine hF7 _ _ ?_; clear hF7
      refine wpSeq fun F9 hF9 => ?_
      refine wpBlock ?_
      refine wpRegion ?_
      refine seqQ rfl rfl (yMove (v := .int _ _) rfl rfl) ?_
      refine seqQ rfl rfl (yMove (v := .slice _ _ _) rfl rfl) ?_
      refine seqQ rfl rfl (yMove (v := .int _ _) rfl rfl) ?_
      refine seqQ rfl rfl (yIdx1 rfl Try.underlying22 Try.sizeOf3 rfl rfl rfl (by omega)) ?_
      refine seqQ rfl rfl (yLoad rfl Try.underlying3 rfl rfl hp) ?_
      refine seqQ rfl rfl (yMax rfl rfl rfl) ?_
      refine seqQ rfl rfl (yAssign (v := .int _ _) rfl rfl) ?_
      refine seqNil ?_
      refine hF9 _ _ ?_; clear hF9
      refine wpRegion ?_
      refine seqQ rfl rfl (yMove (v := .int _ _) rfl rfl) ?_
      refine seqQ rfl rfl (yAdd rfl rfl rfl (by unfold In64; omega)) ?_
      refine seqQ rfl rfl (yAssign (v := .int _ _) rfl rfl) ?_
      refine seqNil ?_
      -- end loop
      exact loopEnd (k + 1, max m l[k]) (by repeat (first | (with_reducible exact Agree.refl _ _) | refine Agree.upd ?_ rfl | refine Agree.over ?_ rfl)) (by dsimp only; omega) ⟨rfl, rfl, trivial⟩ ⟨hk, by rcases (show max m l[k] = m ∨ max m l[k] = l[k] by omega) with h | h <;> (show max m l[k] ∈ l; rw [h]) <;> first | exact hm | exact List.getElem_mem hk, take_all hk (fun y hy => by have := hle y hy; omega) (by dsimp only; omega), rfl⟩
    · skip
      refine wpExit ?_
      refine hF5 _ _ ?_; clear hF5
      refine wpSeq fun F10 hF10 => ?_
      refine wpRegion ?_
      refine seqQ rfl rfl (yMove (v := .int _ _) rfl rfl) ?_
      refine seqQ rfl rfl (yAssign (v := .int _ _) rfl rfl) ?_
      refine seqNil ?_
      refine hF10 _ _ ?_; clear hF10
      -- ret
      refine wpRet (fin1 (v := .int _ _) rfl rfl ?_)
      refine ⟨⟨m, rfl, hm, fun x hx => hle x (by rw [List.take_of_length_le (by omega)]; exact hx)⟩, rfl⟩
set_option maxRecDepth 100000 in
theorem sq64 {n : Int} (h0 : 0 ≤ n) (h1 : n ≤ 24) : In64 ((n + 1) * (n + 1)) ∧ 1 ≤ (n + 1) * (n + 1) ∧ (n + 1) * (n + 1) ≤ 625 := by
  obtain ⟨k, rfl⟩ := Int.eq_ofNat_of_zero_le h0
  have h2 : (k + 1) * (k + 1) ≤ 25 * 25 := Nat.mul_le_mul (by omega) (by omega)
  have h3 : 1 * 1 ≤ (k + 1) * (k + 1) := Nat.mul_le_mul (by omega) (by omega)
  have e : ((k : Int) + 1) * ((k : Int) + 1) = (((k + 1) * (k + 1) : Nat) : Int) := by rw [Int.natCast_mul]; rfl
  rw [e]
  unfold In64
  omega
set_option maxRecDepth 100000 in
theorem zvalid_c (z : Zn) (A : Option Addr) (ca : Nat) (H : Heap) (hA : Rd eInt H A z.b) : CallsH Try.prog 27 [.agg (znC z A ca).toArray] H fun v H' => v = .bool (decide (ValZ z)) ∧ Ext H H' := by
  refine callsH_of Try.func27 rfl Try.ntmps27 (Nat.le_of_ble_eq_true rfl) ?_
  refine wpSeq fun F1 hF1 => ?_
  refine wpRegion ?_
  refine seqN rfl rfl (nBoxA rfl rfl) (fun g1 H1 hx1 hB1 hg1 hl1 => ?_)
  refine seqQ rfl rfl (yAssign (v := .bool _) rfl rfl) ?_
  refine seqNil ?_
  refine hF1 _ _ ?_; clear hF1
  refine wpSeq fun F2 hF2 => ?_
  refine wpRegion ?_
  refine seqQ rfl rfl (yFieldAddr rfl Try.underlying27 rfl Try.sizeOf3 rfl rfl) ?_
  refine seqQ rfl rfl (yLoad rfl Try.underlying3 rfl rfl (hB1.cell rfl)) ?_
  refine seqQ rfl rfl (yGeq rfl rfl rfl) ?_
  first | refine seqG rfl rfl rfl rfl (fun h6 => ?_) (fun h6 => ?_) | refine seqGB rfl rfl rfl rfl (fun h6 => ?_) (fun h6 => ?_)
  rotate_left
  · skip
    refine seqU rfl rfl ?_
    refine seqU rfl rfl ?_
    refine seqU rfl rfl ?_
    refine seqQ rfl rfl (yPickF (v := .bool _) rfl rfl rfl) ?_
    refine seqQ rfl rfl (yMove (v := .bool false) rfl rfl) ?_
    refine seqU rfl rfl ?_
    refine seqU rfl rfl ?_
    refine seqU rfl rfl ?_
    refine seqU rfl rfl ?_
    refine seqU rfl rfl ?_
    refine seqU rfl rfl ?_
    refine seqU rfl rfl ?_
    refine seqU rfl rfl ?_
    refine seqU rfl rfl ?_
    refine seqU rfl rfl ?_
    refine seqU rfl rfl ?_
    refine seqQ rfl rfl (yPickF (v := .bool _) rfl rfl rfl) ?_
    refine seqQ rfl rfl (yMove (v := .bool false) rfl rfl) ?_
    refine seqU rfl rfl ?_
    refine seqU rfl rfl ?_
    refine seqU rfl rfl ?_
    refine seqU rfl rfl ?_
    refine seqQ rfl rfl (yPickF (v := .bool _) rfl rfl rfl) ?_
    refine seqQ rfl rfl (yMove (v := .bool false) rfl rfl) ?_
    refine seqU rfl rfl ?_
    refine seqU rfl rfl ?_
    refine seqU rfl rfl ?_
    refine seqU rfl rfl ?_
    refine seqQ rfl rfl (yPickF (v := .bool _) rfl rfl rfl) ?_
    refine seqQ rfl rfl (yAssign (v := .bool _) rfl rfl) ?_
    refine seqNil ?_
    refine hF2 _ _ ?_; clear hF2
    refine wpRet (fin1 (v := .bool _) rfl rfl ?_)
    exact ⟨by congr 1; grind [ValZ], hx1⟩
  refine seqQ rfl rfl (yFieldAddr rfl Try.underlying27 rfl Try.sizeOf3 rfl rfl) ?_
  refine seqQ rfl rfl (yLoad rfl Try.underlying3 rfl rfl (hB1.cell rfl)) ?_
  refine seqQ rfl rfl (yLeq rfl rfl rfl) ?_
  refine seqQ rfl rfl (yPickT (v := .bool _) rfl rfl rfl) ?_
  first | refine seqG rfl rfl rfl rfl (fun h11 => ?_) (fun h11 => ?_) | refine seqGB rfl rfl rfl rfl (fun h11 => ?_) (fun h11 => ?_)
  rotate_left
  · skip
    refine seqU rfl rfl ?_
    refine seqU rfl rfl ?_
    refine seqU rfl rfl ?_
    refine seqU rfl rfl ?_
    refine seqU rfl rfl ?_
    refine seqU rfl rfl ?_
    refine seqU rfl rfl ?_
    refine seqU rfl rfl ?_
    refine seqU rfl rfl ?_
    refine seqU rfl rfl ?_
    refine seqU rfl rfl ?_
    refine seqQ rfl rfl (yPickF (v := .bool _) rfl rfl rfl) ?_
    refine seqQ rfl rfl (yMove (v := .bool false) rfl rfl) ?_
    refine seqU rfl rfl ?_
    refine seqU rfl rfl ?_
    refine seqU rfl rfl ?_
    refine seqU rfl rfl ?_
    refine seqQ rfl rfl (yPickF (v := .bool _) rfl rfl rfl) ?_
    refine seqQ rfl rfl (yMove (v := .bool false) rfl rfl) ?_
    refine seqU rfl rfl ?_
    refine seqU rfl rfl ?_
    refine seqU rfl rfl ?_
    refine seqU rfl rfl ?_
    refine seqQ rfl rfl (yPickF (v := .bool _) rfl rfl rfl) ?_
    refine seqQ rfl rfl (yAssign (v := .bool _) rfl rfl) ?_
    refine seqNil ?_
    refine hF2 _ _ ?_; clear hF2
    refine wpRet (fin1 (v := .bool _) rfl rfl ?_)
    exact ⟨by congr 1; grind [ValZ], hx1⟩
  refine seqQ rfl rfl (yFieldAddr rfl Try.underlying27 rfl Try.sizeOf22 rfl rfl) ?_
  refine seqQ rfl rfl (yLoad rfl Try.underlying22 rfl rfl (hB1.cell rfl)) ?_
  refine seqQ rfl rfl (yLen rfl Try.underlying22 rfl) ?_
  refine seqQ rfl rfl (yFieldAddr rfl Try.underlying27 rfl Try.sizeOf3 rfl rfl) ?_
  refine seqQ rfl rfl (yLoad rfl Try.underlying3 rfl rfl (hB1.cell rfl)) ?_
  refine seqQ rfl rfl (yAdd rfl rfl rfl (by unfold In64; omega)) ?_
  refine seqQ rfl rfl (yFieldAddr rfl Try.underlying27 rfl Try.sizeOf3 rfl rfl) ?_
  refine seqQ rfl rfl (yLoad rfl Try.underlying3 rfl rfl (hB1.cell rfl)) ?_
  refine seqQ rfl rfl (yAdd rfl rfl rfl (by unfold In64; omega)) ?_
  refine seqQ rfl rfl (yMul rfl rfl rfl (sq64 h6 h11).1) ?_
  refine seqQ rfl rfl (yEql rfl rfl rfl) ?_
  refine seqQ rfl rfl (yPickT (v := .bool _) rfl rfl rfl) ?_
  first | refine seqG rfl rfl rfl rfl (fun h24 => ?_) (fun h24 => ?_) | refine seqGB rfl rfl rfl rfl (fun h24 => ?_) (fun h24 => ?_)
  rotate_left
  · skip
    refine seqU rfl rfl ?_
    refine seqU rfl rfl ?_
    refine seqU rfl rfl ?_
    refine seqU rfl rfl ?_
    refine seqQ rfl rfl (yPickF (v := .bool _) rfl rfl rfl) ?_
    refine seqQ rfl rfl (yMove (v := .bool false) rfl rfl) ?_
    refine seqU rfl rfl ?_
    refine seqU rfl rfl ?_
    refine seqU rfl rfl ?_
    refine seqU rfl rfl ?_
    refine seqQ rfl rfl (yPickF (v := .bool _) rfl rfl rfl) ?_
    refine seqQ rfl rfl (yAssign (v := .bool _) rfl rfl) ?_
    refine seqNil ?_
    refine hF2 _ _ ?_; clear hF2
    refine wpRet (fin1 (v := .bool _) rfl rfl ?_)
    exact ⟨by congr 1; grind [ValZ], hx1⟩
  refine seqQ rfl rfl (yFieldAddr rfl Try.underlying27 rfl Try.sizeOf22 rfl rfl) ?_
  refine seqQ rfl rfl (yLoad rfl Try.underlying22 rfl rfl (hB1.cell rfl)) ?_
  -- e slot 27: call F48<slices.Min[[]int,int]> t26
  have hq := sq64 h6 h11
  refine seqE rfl rfl (stepCall rfl Try.call48 rfl ?_)
  refine (min_c A ca z.b _ (hA.ext hx1) (by omega) (by omega)).mono ?_
  rintro v _ ⟨⟨m, rfl, hm, hle⟩, e⟩
  obtain rfl := e.symm
  clear e
  refine seqQ rfl rfl (yGeq rfl rfl rfl) ?_
  refine seqQ rfl rfl (yPickT (v := .bool _) rfl rfl rfl) ?_
  first | refine seqG rfl rfl rfl rfl (fun h30 => ?_) (fun h30 => ?_) | refine seqGB rfl rfl rfl rfl (fun h30 => ?_) (fun h30 => ?_)
  rotate_left
  · skip
    refine seqU rfl rfl ?_
    refine seqU rfl rfl ?_
    refine seqU rfl rfl ?_
    refine seqU rfl rfl ?_
    refine seqQ rfl rfl (yPickF (v := .bool _) rfl rfl rfl) ?_
    refine seqQ rfl rfl (yAssign (v := .bool _) rfl rfl) ?_
    refine seqNil ?_
    refine hF2 _ _ ?_; clear hF2
    refine wpRet (fin1 (v := .bool _) rfl rfl ?_)
    exact ⟨by congr 1; grind [ValZ], hx1⟩
  refine seqQ rfl rfl (yFieldAddr rfl Try.underlying27 rfl Try.sizeOf22 rfl rfl) ?_
  refine seqQ rfl rfl (yLoad rfl Try.underlying22 rfl rfl (hB1.cell rfl)) ?_
  -- e slot 33: call F49<slices.Max[[]int,int]> t32
  refine seqE rfl rfl (stepCall rfl Try.call49 rfl ?_)
  refine (max_c A ca z.b _ (hA.ext hx1) (by omega) (by omega)).mono ?_
  rintro v _ ⟨⟨m', rfl, hm', hle'⟩, e⟩
  obtain rfl := e.symm
  clear e
  refine seqQ rfl rfl (yLeq rfl rfl rfl) ?_
  refine seqQ rfl rfl (yPickT (v := .bool _) rfl rfl rfl) ?_
  refine seqQ rfl rfl (yAssign (v := .bool _) rfl rfl) ?_
  refine seqNil ?_
  refine hF2 _ _ ?_; clear hF2
  -- ret
  refine wpRet (fin1 (v := .bool _) rfl rfl ?_)
  refine ⟨?_, hx1⟩
  congr 1
  rw [decide_eq_decide]
  constructor
  · intro h
    exact ⟨h6, h11, h24, fun x hx => ⟨by have := hle x hx; omega, by have := hle' x hx; omega⟩⟩
  · intro h
    exact (h.2.2.2 m' hm').2
set_option maxRecDepth 100000 in
theorem rvalid_c (z : Zn) (A : Option Addr) (ca : Nat) (H : Heap) (hA : Rd eInt H A z.b) : CallsH Try.prog 28 [.agg (znC z A ca).toArray] H fun v H' => v = .bool (decide (ValZ z)) ∧ Ext H H' := by
  refine callsH_of Try.func28 rfl Try.ntmps28 (Nat.le_of_ble_eq_true rfl) ?_
  refine wpSeq fun F1 hF1 => ?_
  refine wpRegion ?_
  refine seqN rfl rfl (nBoxA rfl rfl) (fun g1 H1 hx1 hB1 hg1 hl1 => ?_)
  refine seqQ rfl rfl (yAssign (v := .bool _) rfl rfl) ?_
  refine seqNil ?_
  refine hF1 _ _ ?_; clear hF1
  refine wpSeq fun F2 hF2 => ?_
  refine wpSeq fun F3 hF3 => ?_
  refine wpRegion ?_
  refine seqQ rfl rfl (yFieldAddr rfl Try.underlying24 rfl Try.sizeOf3 rfl rfl) ?_
  refine seqQ rfl rfl (yLoad rfl Try.underlying3 rfl rfl (hB1.cell rfl)) ?_
  refine seqQ rfl rfl (yLss rfl rfl rfl) ?_
  -- guard t7
  refine seqMeet 8 [7, 8, 9, 10, 11] 11 (decide (z.N < 0 ∨ 24 < z.N)) (fun hm4 => ?_) (fun J4 => ?_)
  · skip
    first | refine seqG rfl rfl rfl rfl (fun h7 => ?_) (fun h7 => ?_) | refine seqGB rfl rfl rfl rfl (fun h7 => ?_) (fun h7 => ?_)
    · skip
      refine seqU rfl rfl ?_
      refine seqU rfl rfl ?_
      refine seqU rfl rfl ?_
      refine seqQ rfl rfl (yPickT (v := .bool _) rfl rfl rfl) ?_
      exact hm4 _ (by repeat (first | (with_reducible exact Agree.refl _ _) | refine Agree.upd ?_ rfl | refine Agree.over ?_ rfl)) (by show Value.bool _ = Value.bool _; congr 1; grind)
    · skip
      refine seqQ rfl rfl (yFieldAddr rfl Try.underlying24 rfl Try.sizeOf3 rfl rfl) ?_
      refine seqQ rfl rfl (yLoad rfl Try.underlying3 rfl rfl (hB1.cell rfl)) ?_
      refine seqQ rfl rfl (yGtr rfl rfl rfl) ?_
      refine seqQ rfl rfl (yPickF (v := .bool _) rfl rfl rfl) ?_
      exact hm4 _ (by repeat (first | (with_reducible exact Agree.refl _ _) | refine Agree.upd ?_ rfl | refine Agree.over ?_ rfl)) (by show Value.bool _ = Value.bool _; congr 1; grind)
  -- guard t12
  refine seqMeet 21 [12, 13, 14, 15, 16, 17, 18, 19, 20, 21, 22, 23, 24] 24 (decide ((z.N < 0 ∨ 24 < z.N) ∨ ¬ (z.b.length : Int) = (z.N + 1) * (z.N + 1))) (fun hm5 => ?_) (fun J5 => ?_)
  · skip
    first | refine seqG rfl rfl rfl rfl (fun h12 => ?_) (fun h12 => ?_) | refine seqGB rfl rfl rfl rfl (fun h12 => ?_) (fun h12 => ?_)
    · skip
      refine seqU rfl rfl ?_
      refine seqU rfl rfl ?_
      refine seqU rfl rfl ?_
      refine seqU rfl rfl ?_
      refine seqU rfl rfl ?_
      refine seqU rfl rfl ?_
      refine seqU rfl rfl ?_
      refine seqU rfl rfl ?_
      refine seqU rfl rfl ?_
      refine seqU rfl rfl ?_
      refine seqU rfl rfl ?_
      refine seqQ rfl rfl (yPickT (v := .bool _) rfl rfl rfl) ?_
      exact hm5 _ (by repeat (first | (with_reducible exact Agree.refl _ _) | refine Agree.upd ?_ rfl | refine Agree.over ?_ rfl)) (by show Value.bool _ = Value.bool _; congr 1; grind)
    · skip
      refine seqQ rfl rfl (yFieldAddr rfl Try.underlying24 rfl Try.sizeOf22 rfl rfl) ?_
      refine seqQ rfl rfl (yLoad rfl Try.underlying22 rfl rfl (hB1.cell rfl)) ?_
      refine seqQ rfl rfl (yLen rfl Try.underlying22 rfl) ?_
      refine seqQ rfl rfl (yFieldAddr rfl Try.underlying24 rfl Try.sizeOf3 rfl rfl) ?_
      refine seqQ rfl rfl (yLoad rfl Try.underlying3 rfl rfl (hB1.cell rfl)) ?_
      refine seqQ rfl rfl (yAdd rfl rfl rfl (by unfold In64; grind)) ?_
      refine seqQ rfl rfl (yFieldAddr rfl Try.underlying24 rfl Try.sizeOf3 rfl rfl) ?_
      refine seqQ rfl rfl (yLoad rfl Try.underlying3 rfl rfl (hB1.cell rfl)) ?_
      refine seqQ rfl rfl (yAdd rfl rfl rfl (by unfold In64; grind)) ?_
      refine seqQ rfl rfl (yMul rfl rfl rfl (sq64 (n := z.N) (by grind) (by grind)).1) ?_
      refine seqQ rfl rfl (yNeq rfl rfl rfl) ?_
      refine seqQ rfl rfl (yPickF (v := .bool _) rfl rfl rfl) ?_
      exact hm5 _ (by repeat (first | (with_reducible exact Agree.refl _ _) | refine Agree.upd ?_ rfl | refine Agree.over ?_ rfl)) (by show Value.bool _ = Value.bool _; congr 1; grind)
  refine seqNil ?_
  refine hF3 _ _ ?_; clear hF3
  -- if t24
  refine wpIf rfl (fun h1 => ?_) (fun h1 => ?_)
  · skip
    refine wpSeq fun F6 hF6 => ?_
    refine wpRegion ?_
    refine seqQ rfl rfl (yAssign (v := .bool _) rfl rfl) ?_
    refine seqNil ?_
    refine hF6 _ _ ?_; clear hF6
    -- ret
    refine wpRet (fin1 (v := .bool _) rfl rfl ?_)
    exact ⟨by congr 1; grind [ValZ], hx1⟩
  · skip
    have hq := sq64 (n := z.N) (by omega) (by omega)
    refine wpSkip ?_
    refine hF2 _ _ ?_; clear hF2
    refine wpSeq fun F7 hF7 => ?_
    refine wpSeq fun F8 hF8 => ?_
    refine wpRegion ?_
    refine seqQ rfl rfl (yAssign (v := .int _ _) rfl rfl) ?_
    refine seqNil ?_
    refine hF8 _ _ ?_; clear hF8
    -- loop
    refine wpBlock ?_
    refine wpLoopS [2, 3, 25, 26, 27, 28, 29, 30, 31, 32, 33, 34, 35, 36, 37, 38, 39, 40, 41, 42, 43, 44, 45] (fun k : Nat => [(3, .int .i64 k)]) (fun k H' => k ≤ z.b.length ∧ (∀ y ∈ z.b.take k, -20001 ≤ y ∧ y ≤ 20000) ∧ H' = H1) (fun k => z.b.length - k) 0 ⟨rfl, trivial⟩ ⟨Nat.zero_le _, by simp, rfl⟩ ?_
    rintro k J _ ⟨hk, hle, e⟩
    obtain rfl := e.symm
    clear e
    refine wpSeq fun F9 hF9 => ?_
    refine wpSeq fun F10 hF10 => ?_
    refine wpRegion ?_
    refine seqQ rfl rfl (yMove (v := .int _ _) rfl rfl) ?_
    refine seqQ rfl rfl (yFieldAddr rfl Try.underlying24 rfl Try.sizeOf22 rfl rfl) ?_
    refine seqQ rfl rfl (yLoad rfl Try.underlying22 rfl rfl (hB1.cell rfl)) ?_
    refine seqQ rfl rfl (yLen rfl Try.underlying22 rfl) ?_
    refine seqQ rfl rfl (yLss rfl rfl rfl) ?_
    refine seqNil ?_
    refine hF10 _ _ ?_; clear hF10
    -- if t29
    refine wpIf rfl (fun hlt => ?_) (fun hlt => ?_)
    · skip
      have hk : k < z.b.length := by omega
      obtain ⟨q, rfl, hp⟩ := (hA.ext hx1).at1 hk
      refine wpSkip ?_
      refine hF9 _ _ ?_; clear hF9
      refine wpSeq fun F11 hF11 => ?_
      refine wpBlock ?_
      refine wpSeq fun F12 hF12 => ?_
      refine wpRegion ?_
      refine seqQ rfl rfl (yFieldAddr rfl Try.underlying24 rfl Try.sizeOf22 rfl rfl) ?_
      refine seqQ rfl rfl (yLoad rfl Try.underlying22 rfl rfl (hB1.cell rfl)) ?_
      refine seqQ rfl rfl (yMove (v := .int _ _) rfl rfl) ?_
      refine seqQ rfl rfl (yIdx1 rfl Try.underlying22 Try.sizeOf3 rfl rfl rfl (by omega)) ?_
      refine seqQ rfl rfl (yLoad rfl Try.underlying3 rfl rfl hp) ?_
      refine seqQ rfl rfl (yLss rfl rfl rfl) ?_
      -- guard t38
      refine seqMeet 14 [38, 39, 40, 41, 42, 43, 44, 45] 45 (decide (z.b[k] < -20001 ∨ 20000 < z.b[k])) (fun hm13 => ?_) (fun J13 => ?_)
      · skip
        first | refine seqG rfl rfl rfl rfl (fun h38 => ?_) (fun h38 => ?_) | refine seqGB rfl rfl rfl rfl (fun h38 => ?_) (fun h38 => ?_)
        · skip
          refine seqU rfl rfl ?_
          refine seqU rfl rfl ?_
          refine seqU rfl rfl ?_
          refine seqU rfl rfl ?_
          refine seqU rfl rfl ?_
          refine seqU rfl rfl ?_
          refine seqQ rfl rfl (yPickT (v := .bool _) rfl rfl rfl) ?_
          exact hm13 _ (by repeat (first | (with_reducible exact Agree.refl _ _) | refine Agree.upd ?_ rfl | refine Agree.over ?_ rfl)) (by show Value.bool _ = Value.bool _; congr 1; grind)
        · skip
          refine seqQ rfl rfl (yFieldAddr rfl Try.underlying24 rfl Try.sizeOf22 rfl rfl) ?_
          refine seqQ rfl rfl (yLoad rfl Try.underlying22 rfl rfl (hB1.cell rfl)) ?_
          refine seqQ rfl rfl (yMove (v := .int _ _) rfl rfl) ?_
          refine seqQ rfl rfl (yIdx1 rfl Try.underlying22 Try.sizeOf3 rfl rfl rfl (by omega)) ?_
          refine seqQ rfl rfl (yLoad rfl Try.underlying3 rfl rfl hp) ?_
          refine seqQ rfl rfl (yGtr rfl rfl rfl) ?_
          refine seqQ rfl rfl (yPickF (v := .bool _) rfl rfl rfl) ?_
          exact hm13 _ (by repeat (first | (with_reducible exact Agree.refl _ _) | refine Agree.upd ?_ rfl | refine Agree.over ?_ rfl)) (by show Value.bool _ = Value.bool _; congr 1; grind)
      refine seqNil ?_
      refine hF12 _ _ ?_; clear hF12
      -- if t45
      refine wpIf rfl (fun hbad => ?_) (fun hbad => ?_)
      · skip
        refine wpSeq fun F14 hF14 => ?_
        refine wpRegion ?_
        refine seqQ rfl rfl (yAssign (v := .bool _) rfl rfl) ?_
        refine seqNil ?_
        refine hF14 _ _ ?_; clear hF14
        -- ret
        refine wpRet (fin1 (v := .bool _) rfl rfl ?_)
        refine ⟨?_, hx1⟩
        have : ¬ ValZ z := fun h => by have := h.2.2.2 _ (List.getElem_mem hk); omega
        rw [decide_eq_false this]
      · skip
        refine wpSkip ?_
        refine hF11 _ _ ?_; clear hF11
        refine wpRegion ?_
        refine seqQ rfl rfl (yMove (v := .int _ _) rfl rfl) ?_
        refine seqQ rfl rfl (yAdd rfl rfl rfl (by unfold In64; omega)) ?_
        refine seqQ rfl rfl (yAssign (v := .int _ _) rfl rfl) ?_
        refine seqNil ?_
        -- end loop
        exact loopEnd (k + 1) (by repeat (first | (with_reducible exact Agree.refl _ _) | refine Agree.upd ?_ rfl | refine Agree.over ?_ rfl)) (by omega) ⟨rfl, trivial⟩ ⟨hk, take_all hk hle (by omega), rfl⟩
    · skip
      refine wpExit ?_
      refine hF7 _ _ ?_; clear hF7
      refine wpSeq fun F15 hF15 => ?_
      refine wpRegion ?_
      refine seqQ rfl rfl (yAssign (v := .bool _) rfl rfl) ?_
      refine seqNil ?_
      refine hF15 _ _ ?_; clear hF15
      -- ret
      refine wpRet (fin1 (v := .bool _) rfl rfl ?_)
      refine ⟨?_, hx1⟩
      have : ValZ z := ⟨by omega, by omega, by omega, fun x hx => hle x (by rw [List.take_of_length_le (by omega)]; exact hx)⟩
      rw [decide_eq_true this]
set_option maxRecDepth 100000 in
theorem few_c (z : Zn) (A : Option Addr) (ca : Nat) (H : Heap) : CallsH Try.prog 13 [.agg (znC z A ca).toArray] H fun v H' => v = .bool (decide (z.N ≤ 8 ∧ z.b.length ≤ 100)) ∧ Ext H H' := by
  refine callsH_of Try.func13 rfl Try.ntmps13 (Nat.le_of_ble_eq_true rfl) ?_
  refine wpSeq fun F1 hF1 => ?_
  refine wpRegion ?_
  refine seqN rfl rfl (nBoxA rfl rfl) (fun g1 H1 hx1 hB1 hg1 hl1 => ?_)
  refine seqQ rfl rfl (yAssign (v := .bool _) rfl rfl) ?_
  refine seqNil ?_
  refine hF1 _ _ ?_; clear hF1
  refine wpSeq fun F2 hF2 => ?_
  refine wpRegion ?_
  refine seqQ rfl rfl (yFieldAddr rfl Try.underlying24 rfl Try.sizeOf3 rfl rfl) ?_
  refine seqQ rfl rfl (yLoad rfl Try.underlying3 rfl rfl (hB1.cell rfl)) ?_
  refine seqQ rfl rfl (yLeq rfl rfl rfl) ?_
  first | refine seqG rfl rfl rfl rfl (fun h6 => ?_) (fun h6 => ?_) | refine seqGB rfl rfl rfl rfl (fun h6 => ?_) (fun h6 => ?_)
  rotate_left
  · skip
    refine seqU rfl rfl ?_
    refine seqU rfl rfl ?_
    refine seqU rfl rfl ?_
    refine seqU rfl rfl ?_
    refine seqQ rfl rfl (yPickF (v := .bool _) rfl rfl rfl) ?_
    refine seqQ rfl rfl (yAssign (v := .bool _) rfl rfl) ?_
    refine seqNil ?_
    refine hF2 _ _ ?_; clear hF2
    refine wpRet (fin1 (v := .bool _) rfl rfl ?_)
    exact ⟨by congr 1; grind, hx1⟩
  refine seqQ rfl rfl (yFieldAddr rfl Try.underlying24 rfl Try.sizeOf22 rfl rfl) ?_
  refine seqQ rfl rfl (yLoad rfl Try.underlying22 rfl rfl (hB1.cell rfl)) ?_
  refine seqQ rfl rfl (yLen rfl Try.underlying22 rfl) ?_
  refine seqQ rfl rfl (yLeq rfl rfl rfl) ?_
  refine seqQ rfl rfl (yPickT (v := .bool _) rfl rfl rfl) ?_
  refine seqQ rfl rfl (yAssign (v := .bool _) rfl rfl) ?_
  refine seqNil ?_
  refine hF2 _ _ ?_; clear hF2
  -- ret
  refine wpRet (fin1 (v := .bool _) rfl rfl ?_)
  exact ⟨by congr 1; grind, hx1⟩
set_option maxRecDepth 100000 in
theorem same_c (x y : Zn) (A B : Option Addr) (ca cb : Nat) (H : Heap) (hA : Rd eInt H A x.b) (hB : Rd eInt H B y.b) (hl : x.b.length ≤ 1000000000) :
    CallsH Try.prog 21 [.agg (znC x A ca).toArray, .agg (znC y B cb).toArray] H fun v H' => v = .bool (decide (x.N = y.N ∧ x.b = y.b)) ∧ Ext H H' := by
  refine callsH_of Try.func21 rfl Try.ntmps21 (Nat.le_of_ble_eq_true rfl) ?_
  refine wpSeq fun F1 hF1 => ?_
  refine wpRegion ?_
  refine seqN rfl rfl (nBoxA rfl rfl) (fun g2 H2 hx2 hB2 hg2 hl2 => ?_)
  refine seqN rfl rfl (nBoxA rfl rfl) (fun g3 H3 hx3 hB3 hg3 hl3 => ?_)
  refine seqQ rfl rfl (yAssign (v := .bool _) rfl rfl) ?_
  refine seqNil ?_
  refine hF1 _ _ ?_; clear hF1
  refine wpSeq fun F2 hF2 => ?_
  refine wpSeq fun F3 hF3 => ?_
  refine wpRegion ?_
  refine seqQ rfl rfl (yFieldAddr rfl Try.underlying24 rfl Try.sizeOf3 rfl rfl) ?_
  refine seqQ rfl rfl (yLoad rfl Try.underlying3 rfl rfl ((hB2.ext hx3).cell rfl)) ?_
  refine seqQ rfl rfl (yFieldAddr rfl Try.underlying24 rfl Try.sizeOf3 rfl rfl) ?_
  refine seqQ rfl rfl (yLoad rfl Try.underlying3 rfl rfl (hB3.cell rfl)) ?_
  refine seqQ rfl rfl (yNeq rfl rfl rfl) ?_
  -- guard t11
  refine seqMeet 14 [11, 12, 13, 14, 15, 16, 17, 18, 19] 19 (decide (¬ x.N = y.N ∨ ¬ (x.b.length : Int) = y.b.length)) (fun hm4 => ?_) (fun J4 => ?_)
  · skip
    first | refine seqG rfl rfl rfl rfl (fun h11 => ?_) (fun h11 => ?_) | refine seqGB rfl rfl rfl rfl (fun h11 => ?_) (fun h11 => ?_)
    · skip
      refine seqU rfl rfl ?_
      refine seqU rfl rfl ?_
      refine seqU rfl rfl ?_
      refine seqU rfl rfl ?_
      refine seqU rfl rfl ?_
      refine seqU rfl rfl ?_
      refine seqU rfl rfl ?_
      refine seqQ rfl rfl (yPickT (v := .bool _) rfl rfl rfl) ?_
      exact hm4 _ (by repeat (first | (with_reducible exact Agree.refl _ _) | refine Agree.upd ?_ rfl | refine Agree.over ?_ rfl)) (by show Value.bool _ = Value.bool _; congr 1; grind)
    · skip
      refine seqQ rfl rfl (yFieldAddr rfl Try.underlying24 rfl Try.sizeOf22 rfl rfl) ?_
      refine seqQ rfl rfl (yLoad rfl Try.underlying22 rfl rfl ((hB2.ext hx3).cell rfl)) ?_
      refine seqQ rfl rfl (yLen rfl Try.underlying22 rfl) ?_
      refine seqQ rfl rfl (yFieldAddr rfl Try.underlying24 rfl Try.sizeOf22 rfl rfl) ?_
      refine seqQ rfl rfl (yLoad rfl Try.underlying22 rfl rfl (hB3.cell rfl)) ?_
      refine seqQ rfl rfl (yLen rfl Try.underlying22 rfl) ?_
      refine seqQ rfl rfl (yNeq rfl rfl rfl) ?_
      refine seqQ rfl rfl (yPickF (v := .bool _) rfl rfl rfl) ?_
      exact hm4 _ (by repeat (first | (with_reducible exact Agree.refl _ _) | refine Agree.upd ?_ rfl | refine Agree.over ?_ rfl)) (by show Value.bool _ = Value.bool _; congr 1; grind)
  refine seqNil ?_
  refine hF3 _ _ ?_; clear hF3
  -- if t19
  refine wpIf rfl (fun h1 => ?_) (fun h1 => ?_)
  · skip
    refine wpSeq fun F5 hF5 => ?_
    refine wpRegion ?_
    refine seqQ rfl rfl (yAssign (v := .bool _) rfl rfl) ?_
    refine seqNil ?_
    refine hF5 _ _ ?_; clear hF5
    -- ret
    refine wpRet (fin1 (v := .bool _) rfl rfl ?_)
    exact ⟨by congr 1; grind, hx2.trans hx3⟩
  · skip
    have hN : x.N = y.N := by omega
    have hl2 : x.b.length = y.b.length := by omega
    replace hB2 := hB2.ext hx3
    have hx := hx2.trans hx3
    refine wpSkip ?_
    refine hF2 _ _ ?_; clear hF2
    refine wpSeq fun F6 hF6 => ?_
    refine wpSeq fun F7 hF7 => ?_
    refine wpRegion ?_
    refine seqQ rfl rfl (yAssign (v := .int _ _) rfl rfl) ?_
    refine seqNil ?_
    refine hF7 _ _ ?_; clear hF7
    -- loop
    refine wpBlock ?_
    refine wpLoopS [4, 5, 20, 21, 22, 23, 24, 25, 26, 27, 28, 29, 30, 31, 32, 33, 34, 35, 36, 37] (fun k : Nat => [(5, .int .i64 k)]) (fun k H' => k ≤ x.b.length ∧ (x.b.take k = y.b.take k) ∧ H' = H3) (fun k => x.b.length - k) 0 ⟨rfl, trivial⟩ ⟨Nat.zero_le _, by simp, rfl⟩ ?_
    rintro k J _ ⟨hk, heq, e⟩
    obtain rfl := e.symm
    clear e
    refine wpSeq fun F8 hF8 => ?_
    refine wpSeq fun F9 hF9 => ?_
    refine wpRegion ?_
    refine seqQ rfl rfl (yMove (v := .int _ _) rfl rfl) ?_
    refine seqQ rfl rfl (yFieldAddr rfl Try.underlying24 rfl Try.sizeOf22 rfl rfl) ?_
    refine seqQ rfl rfl (yLoad rfl Try.underlying22 rfl rfl (hB2.cell rfl)) ?_
    refine seqQ rfl rfl (yLen rfl Try.underlying22 rfl) ?_
    refine seqQ rfl rfl (yLss rfl rfl rfl) ?_
    refine seqNil ?_
    refine hF9 _ _ ?_; clear hF9
    -- if t24
    refine wpIf rfl (fun hlt => ?_) (fun hlt => ?_)
    · skip
      have hka : k < x.b.length := by omega
      have hkb : k < y.b.length := by omega
      obtain ⟨p, rfl, hp⟩ := (hA.ext hx).at1 hka
      obtain ⟨q, rfl, hq⟩ := (hB.ext hx).at1 hkb
      refine wpSkip ?_
      refine hF8 _ _ ?_; clear hF8
      refine wpSeq fun F10 hF10 => ?_
      refine wpBlock ?_
      refine wpSeq fun F11 hF11 => ?_
      refine wpRegionD Try_mixed [.q, .q, .q, .q, .q, .q, .q, .q, .q, .q, .q] 10 [0, 1, 0, 7, 15, 0, 32, 0, 224, 480, 1023] [] (by kernel_rfl) _ rfl [0, 1, 2, 3, 4, 5, 6, 7, 8, 9] rfl (by simp) ?_
      refine lexQ rfl rfl rfl rfl (fun H hM => (yFieldAddr rfl Try.underlying24 rfl Try.sizeOf22 rfl rfl)) ?_
      refine lexQ rfl rfl rfl rfl (fun H hM => (yLoad rfl Try.underlying22 rfl rfl (hM.ext.cell (hB2.cell rfl)))) ?_
      refine lexQ rfl rfl rfl rfl (fun H hM => (yMove (v := .int _ _) rfl rfl)) ?_
      refine lexQ rfl rfl rfl rfl (fun H hM => (yIdx1 rfl Try.underlying22 Try.sizeOf3 rfl rfl rfl (by omega))) ?_
      refine lexQ rfl rfl rfl rfl (fun H hM => (yLoad rfl Try.underlying3 rfl rfl (hM.ext.cell hp))) ?_
      refine lexQ rfl rfl rfl rfl (fun H hM => (yFieldAddr rfl Try.underlying24 rfl Try.sizeOf22 rfl rfl)) ?_
      refine lexQ rfl rfl rfl rfl (fun H hM => (yLoad rfl Try.underlying22 rfl rfl (hM.ext.cell (hB3.cell rfl)))) ?_
      refine lexQ rfl rfl rfl rfl (fun H hM => (yMove (v := .int _ _) rfl rfl)) ?_
      refine lexQ rfl rfl rfl rfl (fun H hM => (yIdx1 rfl Try.underlying22 Try.sizeOf3 rfl rfl rfl (by omega))) ?_
      refine lexQ rfl rfl rfl rfl (fun H hM => (yLoad rfl Try.underlying3 rfl rfl (hM.ext.cell hq))) ?_
      -- tail
      refine lexNil0 rfl (fun hM => ?_)
      refine seqQ rfl rfl (yNeq rfl rfl rfl) ?_
      refine seqNil ?_
      refine hF11 _ _ ?_; clear hF11
      -- if t37
      refine wpCond rfl (fun hne => ?_) (fun hne => ?_)
      · skip
        have hne : ¬ x.b[k] = y.b[k] := by simpa using hne
        refine wpSeq fun F12 hF12 => ?_
        refine wpRegion ?_
        refine seqQ rfl rfl (yAssign (v := .bool _) rfl rfl) ?_
        refine seqNil ?_
        refine hF12 _ _ ?_; clear hF12
        -- ret
        refine wpRet (fin1 (v := .bool _) rfl rfl ?_)
        refine ⟨?_, hx⟩
        have : ¬ (x.N = y.N ∧ x.b = y.b) := fun h => hne (by simp only [h.2])
        rw [decide_eq_false this]
      · skip
        have hne : x.b[k] = y.b[k] := by simpa using hne
        refine wpSkip ?_
        refine hF10 _ _ ?_; clear hF10
        refine wpRegion ?_
        refine seqQ rfl rfl (yMove (v := .int _ _) rfl rfl) ?_
        refine seqQ rfl rfl (yAdd rfl rfl rfl (by unfold In64; omega)) ?_
        refine seqQ rfl rfl (yAssign (v := .int _ _) rfl rfl) ?_
        refine seqNil ?_
        -- end loop
        exact loopEnd (k + 1) (by repeat (first | (with_reducible exact Agree.refl _ _) | refine Agree.upd ?_ rfl | refine Agree.over ?_ rfl)) (by omega) ⟨rfl, trivial⟩ ⟨hka, by rw [List.take_succ_eq_append_getElem hka, List.take_succ_eq_append_getElem hkb, heq, hne], rfl⟩
    · skip
      refine wpExit ?_
      refine hF6 _ _ ?_; clear hF6
      refine wpSeq fun F13 hF13 => ?_
      refine wpRegion ?_
      refine seqQ rfl rfl (yAssign (v := .bool _) rfl rfl) ?_
      refine seqNil ?_
      refine hF13 _ _ ?_; clear hF13
      -- ret
      refine wpRet (fin1 (v := .bool _) rfl rfl ?_)
      refine ⟨?_, hx⟩
      rw [List.take_of_length_le (by omega), List.take_of_length_le (by omega)] at heq
      rw [decide_eq_true ⟨hN, heq⟩]
set_option maxRecDepth 100000 in
theorem inside_c (z : Zn) (x : Int) (A : Option Addr) (ca : Nat) (H : Heap) : CallsH Try.prog 45 [.agg (znC z A ca).toArray, .int .i64 x] H fun v H' => v = .bool (decide (knownB z x)) ∧ Ext H H' := by
  refine callsH_of Try.func45 rfl Try.ntmps45 (Nat.le_of_ble_eq_true rfl) ?_
  refine wpSeq fun F1 hF1 => ?_
  refine wpRegion ?_
  refine seqN rfl rfl (nBoxA rfl rfl) (fun g2 H2 hx2 hB2 hg2 hl2 => ?_)
  refine seqQ rfl rfl (yAssign (v := .bool _) rfl rfl) ?_
  refine seqNil ?_
  refine hF1 _ _ ?_; clear hF1
  refine wpSeq fun F2 hF2 => ?_
  refine wpRegion ?_
  refine seqQ rfl rfl (yMove (v := .int _ _) rfl rfl) ?_
  refine seqQ rfl rfl (yGeq rfl rfl rfl) ?_
  first | refine seqG rfl rfl rfl rfl (fun h7 => ?_) (fun h7 => ?_) | refine seqGB rfl rfl rfl rfl (fun h7 => ?_) (fun h7 => ?_)
  rotate_left
  · skip
    refine seqU rfl rfl ?_
    refine seqU rfl rfl ?_
    refine seqU rfl rfl ?_
    refine seqU rfl rfl ?_
    refine seqQ rfl rfl (yPickF (v := .bool _) rfl rfl rfl) ?_
    refine seqQ rfl rfl (yAssign (v := .bool _) rfl rfl) ?_
    refine seqNil ?_
    refine hF2 _ _ ?_; clear hF2
    refine wpRet (fin1 (v := .bool _) rfl rfl ?_)
    exact ⟨by congr 1; grind [knownB], hx2⟩
  refine seqQ rfl rfl (yMove (v := .int _ _) rfl rfl) ?_
  refine seqQ rfl rfl (yFieldAddr rfl Try.underlying27 rfl Try.sizeOf3 rfl rfl) ?_
  refine seqQ rfl rfl (yLoad rfl Try.underlying3 rfl rfl (hB2.cell rfl)) ?_
  refine seqQ rfl rfl (yLss rfl rfl rfl) ?_
  refine seqQ rfl rfl (yPickT (v := .bool _) rfl rfl rfl) ?_
  refine seqQ rfl rfl (yAssign (v := .bool _) rfl rfl) ?_
  refine seqNil ?_
  refine hF2 _ _ ?_; clear hF2
  -- ret
  refine wpRet (fin1 (v := .bool _) rfl rfl ?_)
  exact ⟨by congr 1; grind [knownB], hx2⟩
set_option maxRecDepth 100000 in
theorem known_c (z : Zn) (x : Int) (A : Option Addr) (ca : Nat) (H : Heap) : CallsH Try.prog 46 [.agg (znC z A ca).toArray, .int .i64 x] H fun v H' => v = .bool (decide (knownB z x)) ∧ Ext H H' := by
  refine callsH_of Try.func46 rfl Try.ntmps46 (Nat.le_of_ble_eq_true rfl) ?_
  refine wpSeq fun F1 hF1 => ?_
  refine wpRegion ?_
  refine seqN rfl rfl (nBoxA rfl rfl) (fun g2 H2 hx2 hB2 hg2 hl2 => ?_)
  refine seqQ rfl rfl (yAssign (v := .bool _) rfl rfl) ?_
  refine seqNil ?_
  refine hF1 _ _ ?_; clear hF1
  refine wpSeq fun F2 hF2 => ?_
  refine wpRegion ?_
  refine seqQ rfl rfl (yMove (v := .int _ _) rfl rfl) ?_
  refine seqQ rfl rfl (yGeq rfl rfl rfl) ?_
  first | refine seqG rfl rfl rfl rfl (fun h7 => ?_) (fun h7 => ?_) | refine seqGB rfl rfl rfl rfl (fun h7 => ?_) (fun h7 => ?_)
  rotate_left
  · skip
    refine seqU rfl rfl ?_
    refine seqU rfl rfl ?_
    refine seqU rfl rfl ?_
    refine seqU rfl rfl ?_
    refine seqQ rfl rfl (yPickF (v := .bool _) rfl rfl rfl) ?_
    refine seqQ rfl rfl (yAssign (v := .bool _) rfl rfl) ?_
    refine seqNil ?_
    refine hF2 _ _ ?_; clear hF2
    refine wpRet (fin1 (v := .bool _) rfl rfl ?_)
    exact ⟨by congr 1; grind [knownB], hx2⟩
  refine seqQ rfl rfl (yMove (v := .int _ _) rfl rfl) ?_
  refine seqQ rfl rfl (yFieldAddr rfl Try.underlying24 rfl Try.sizeOf3 rfl rfl) ?_
  refine seqQ rfl rfl (yLoad rfl Try.underlying3 rfl rfl (hB2.cell rfl)) ?_
  refine seqQ rfl rfl (yLss rfl rfl rfl) ?_
  refine seqQ rfl rfl (yPickT (v := .bool _) rfl rfl rfl) ?_
  refine seqQ rfl rfl (yAssign (v := .bool _) rfl rfl) ?_
  refine seqNil ?_
  refine hF2 _ _ ?_; clear hF2
  -- ret
  refine wpRet (fin1 (v := .bool _) rfl rfl ?_)
  exact ⟨by congr 1; grind [knownB], hx2⟩
/- Entries. -/
set_option maxRecDepth 100000 in
theorem mul25 {a b : Nat} (ha : a ≤ 25) (hb : b ≤ 25) : a * b ≤ 625 := Nat.mul_le_mul ha hb
set_option maxRecDepth 100000 in
theorem ValZ.succ {z : Zn} (hv : ValZ z) : z.N + 1 = (dm z : Int) := by have := hv.dim.1; omega
set_option maxRecDepth 100000 in
theorem mul_in {n i : Nat} (h : i ≤ 25) (h' : n ≤ 25) : In64 ((i : Int) * (n : Int)) := by
  rw [← Int.natCast_mul]
  have := mul25 h h'
  unfold In64
  omega
set_option maxRecDepth 100000 in
theorem add_in {n i j : Nat} (h : i ≤ 25) (h' : n ≤ 25) (hj : j ≤ 25) : In64 ((i : Int) * (n : Int) + (j : Int)) := by
  rw [← Int.natCast_mul]
  have := mul25 h h'
  unfold In64
  omega
set_option maxRecDepth 100000 in
theorem idx_e {n i j : Nat} : (i : Int) * (n : Int) + (j : Int) = ((i * n + j : Nat) : Int) := by rw [Int.natCast_add, Int.natCast_mul]
set_option maxRecDepth 100000 in
theorem mul_inZ {z : Zn} (hv : ValZ z) {i : Nat} (h : i < dm z) : In64 ((i : Int) * (z.N + 1)) := by
  rw [hv.succ]
  exact mul_in (by have := hv.dim.2.2.1; omega) hv.dim.2.2.1
set_option maxRecDepth 100000 in
theorem add_inZ {z : Zn} (hv : ValZ z) {i j : Nat} (h : i < dm z) (h' : j < dm z) : In64 ((i : Int) * (z.N + 1) + (j : Int)) := by
  rw [hv.succ]
  exact add_in (by have := hv.dim.2.2.1; omega) hv.dim.2.2.1 (by have := hv.dim.2.2.1; omega)
set_option maxRecDepth 100000 in
theorem idx_eZ {z : Zn} (hv : ValZ z) {i j : Nat} : (i : Int) * (z.N + 1) + (j : Int) = ((i * dm z + j : Nat) : Int) := by rw [hv.succ]; exact idx_e
set_option maxRecDepth 100000 in
theorem rdM {H : Heap} {A : Option Addr} {L : List Int} {n a b : Nat} (hA : Rd eInt H A L) (hl : L.length = n * n) (ha : a < n) (hb : b < n) : ∃ p, A = some p ∧ cellH H (p.add (a * n + b)) = some (.int .i64 (mt n L a b)) := by
  have hlt := idx_lt ha hb
  obtain ⟨p, e, hp⟩ := hA.at1 (k := a * n + b) (by omega)
  refine ⟨p, e, ?_⟩
  rw [hp]
  unfold mt
  rw [List.getD_eq_getElem?_getD, List.getElem?_eq_getElem (by omega), Option.getD_some]
set_option maxRecDepth 100000 in
theorem at_c (z : Zn) (i j : Nat) (A : Option Addr) (ca : Nat) (H : Heap) (hA : Rd eInt H A z.b) (hv : ValZ z) (hi : i < dm z) (hj : j < dm z) :
    CallsH Try.prog 44 [.agg (znC z A ca).toArray, .int .i64 i, .int .i64 j] H fun v H' => v = .int .i64 (mt (dm z) z.b i j) ∧ Ext H H' := by
  obtain ⟨h1, h2, h3, h4⟩ := hv.dim
  have hlt := idx_lt hi hj
  obtain ⟨p, rfl, hp⟩ := rdM hA h4 hi hj
  refine callsH_of Try.func44 rfl Try.ntmps44 (Nat.le_of_ble_eq_true rfl) ?_
  refine wpSeq fun F1 hF1 => ?_
  refine wpRegion ?_
  refine seqN rfl rfl (nBoxA rfl rfl) (fun g3 H3 hx3 hB3 hg3 hl3 => ?_)
  refine seqQ rfl rfl (yAssign (v := .int _ _) rfl rfl) ?_
  refine seqNil ?_
  refine hF1 _ _ ?_; clear hF1
  refine wpSeq fun F2 hF2 => ?_
  refine wpRegion ?_
  refine seqQ rfl rfl (yFieldAddr rfl Try.underlying27 rfl Try.sizeOf22 rfl rfl) ?_
  refine seqQ rfl rfl (yLoad rfl Try.underlying22 rfl rfl (hB3.cell rfl)) ?_
  refine seqQ rfl rfl (yMove (v := .int _ _) rfl rfl) ?_
  refine seqQ rfl rfl (yFieldAddr rfl Try.underlying27 rfl Try.sizeOf3 rfl rfl) ?_
  refine seqQ rfl rfl (yLoad rfl Try.underlying3 rfl rfl (hB3.cell rfl)) ?_
  refine seqQ rfl rfl (yAdd rfl rfl rfl (by unfold In64; omega)) ?_
  refine seqQ rfl rfl (yMul rfl rfl rfl (mul_inZ hv hi)) ?_
  refine seqQ rfl rfl (yMove (v := .int _ _) rfl rfl) ?_
  refine seqQ rfl rfl (yAdd rfl rfl rfl (add_inZ hv hi hj)) ?_
  refine seqQ rfl rfl (yIdx1 rfl Try.underlying22 Try.sizeOf3 rfl rfl (idx_eZ hv) (by omega)) ?_
  refine seqQ rfl rfl (yLoad rfl Try.underlying3 rfl rfl (hx3.cell hp)) ?_
  refine seqQ rfl rfl (yAssign (v := .int _ _) rfl rfl) ?_
  refine seqNil ?_
  refine hF2 _ _ ?_; clear hF2
  -- ret
  refine wpRet (fin1 (v := .int _ _) rfl rfl ?_)
  exact ⟨rfl, hx3⟩
end Go.Proofs.Ytjkbkmbblidipaa
