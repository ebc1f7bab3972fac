/- Walks over package vclock. -/
import Derived.Test.YtbanngdijmglbaaP
namespace Go.Proofs.Ytbanngdijmglbaa
open Go.RowKit

def leB : List Int → List Int → Bool
  | x :: a, y :: b => decide (x ≤ y) && leB a b
  | _, _ => true
set_option maxRecDepth 100000 in
theorem leB_step {a b : List Int} {k : Nat} (ha : k < a.length) (hb : k < b.length) : leB (a.drop k) (b.drop k) = (decide (a[k] ≤ b[k]) && leB (a.drop (k + 1)) (b.drop (k + 1))) := by
  rw [List.drop_eq_getElem_cons ha, List.drop_eq_getElem_cons hb]; rfl
def minL : List Int → Int
  | [] => 0
  | x :: l => l.foldl min x
def maxL : List Int → Int
  | [] => 0
  | x :: l => l.foldl max x
set_option maxRecDepth 100000 in
theorem take_next {α : Type} {l : List α} {k : Nat} (h : k < l.length) : l.take (k + 1) = l.take k ++ [l[k]] := by
  rw [List.take_add_one, List.getElem?_eq_getElem h]; rfl
set_option maxRecDepth 100000 in
theorem minL_snoc {l : List Int} (h : l ≠ []) (x : Int) : minL (l ++ [x]) = min (minL l) x := by
  cases l with
  | nil => exact absurd rfl h
  | cons y l => simp [minL]
set_option maxRecDepth 100000 in
theorem maxL_snoc {l : List Int} (h : l ≠ []) (x : Int) : maxL (l ++ [x]) = max (maxL l) x := by
  cases l with
  | nil => exact absurd rfl h
  | cons y l => simp [maxL]
set_option maxRecDepth 100000 in
theorem le_minL (m : Int) : ∀ (l : List Int), l ≠ [] → (m ≤ minL l ↔ ∀ x ∈ l, m ≤ x) := by
  intro l h
  cases l with
  | nil => exact absurd rfl h
  | cons y l =>
    clear h
    simp only [minL]
    induction l generalizing y with
    | nil => simp
    | cons z l ih =>
      rw [List.foldl_cons, ih]
      simp only [List.mem_cons, forall_eq_or_imp]
      constructor
      · rintro ⟨h1, h2⟩; exact ⟨by omega, by omega, h2⟩
      · rintro ⟨h1, h2, h3⟩; exact ⟨by omega, h3⟩
set_option maxRecDepth 100000 in
theorem maxL_le (m : Int) : ∀ (l : List Int), l ≠ [] → (maxL l ≤ m ↔ ∀ x ∈ l, x ≤ m) := by
  intro l h
  cases l with
  | nil => exact absurd rfl h
  | cons y l =>
    clear h
    simp only [maxL]
    induction l generalizing y with
    | nil => simp
    | cons z l ih =>
      rw [List.foldl_cons, ih]
      simp only [List.mem_cons, forall_eq_or_imp]
      constructor
      · rintro ⟨h1, h2⟩; exact ⟨by omega, by omega, h2⟩
      · rintro ⟨h1, h2, h3⟩; exact ⟨by omega, h3⟩
set_option maxRecDepth 100000 in
theorem take_ne {α : Type} {l : List α} {k : Nat} (h : 1 ≤ k) (hk : k ≤ l.length) : l.take k ≠ [] := by
  intro e
  have := congrArg List.length e
  simp only [List.length_take, List.length_nil] at this
  omega

set_option maxRecDepth 100000 in
theorem min_c (A : Option Addr) (c : Nat) (l : List Int) (H : Heap) (hA : Rd eInt H A l) (h1 : 1 ≤ l.length) (hm : l.length ≤ 1000000000) :
    CallsH Try.prog 74 [.slice A l.length c] H fun v H' => v = .int .i64 (minL l) ∧ H' = H := by
  obtain ⟨p, rfl, hp⟩ := hA.at1 (k := 0) h1
  refine callsH_of Try.func74 rfl Try.ntmps74 (Nat.le_of_ble_eq_true rfl) ?_
  refine wpSeq fun F1 hF1 => ?_
  refine wpRegion ?_
  refine seqQ rfl rfl (yAssign (v := .int _ _) rfl rfl) ?_
  refine seqNil ?_
  refine hF1 _ _ ?_; clear hF1
  refine wpSeq fun F2 hF2 => ?_
  refine wpSeq fun F3 hF3 => ?_
  refine wpRegion ?_
  refine seqQ rfl rfl (yMove (v := .slice _ _ _) rfl rfl) ?_
  refine seqQ rfl rfl (yLen rfl Try.underlying44 rfl) ?_
  refine seqQ rfl rfl (yLss rfl rfl rfl) ?_
  refine seqNil ?_
  refine hF3 _ _ ?_; clear hF3
  -- if t7
  refine wpIf rfl (fun h => absurd h (by omega)) (fun _ => ?_)
  refine wpSkip ?_
  refine hF2 _ _ ?_; clear hF2
  refine wpSeq fun F4 hF4 => ?_
  refine wpRegion ?_
  refine seqQ rfl rfl (yMove (v := .slice _ _ _) rfl rfl) ?_
  refine seqQ rfl rfl (yIdx1 rfl Try.underlying44 Try.sizeOf3 rfl rfl rfl h1) ?_
  refine seqQ rfl rfl (yLoad rfl Try.underlying3 rfl rfl hp) ?_
  refine seqQ rfl rfl (yAssign (v := .int _ _) rfl rfl) ?_
  refine seqNil ?_
  refine hF4 _ _ ?_; clear hF4
  refine wpSeq fun F5 hF5 => ?_
  refine wpSeq fun F6 hF6 => ?_
  refine wpRegion ?_
  refine seqQ rfl rfl (yAssign (v := .int _ _) rfl rfl) ?_
  refine seqNil ?_
  refine hF6 _ _ ?_; clear hF6
  -- loop
  refine wpBlock ?_
  refine wpLoopS [3, 4, 12, 13, 14, 15, 16, 17, 18, 19, 20, 21, 22, 23] (fun k : Nat => [(3, .int .i64 (minL (l.take k))), (4, .int .i64 k)]) (fun k H' => 1 ≤ k ∧ k ≤ l.length ∧ H' = H) (fun k => l.length - k) 1 ⟨by rw [take_next h1]; rfl, rfl, trivial⟩ ⟨Nat.le_refl _, h1, rfl⟩ ?_
  rintro k J H' ⟨hk1, hk, rfl⟩
  refine wpSeq fun F7 hF7 => ?_
  refine wpSeq fun F8 hF8 => ?_
  refine wpRegion ?_
  refine seqQ rfl rfl (yMove (v := .int _ _) rfl rfl) ?_
  refine seqQ rfl rfl (yMove (v := .slice _ _ _) rfl rfl) ?_
  refine seqQ rfl rfl (yLen rfl Try.underlying44 rfl) ?_
  refine seqQ rfl rfl (yLss rfl rfl rfl) ?_
  refine seqNil ?_
  refine hF8 _ _ ?_; clear hF8
  -- if t15
  refine wpIf rfl (fun hlt => ?_) (fun hlt => ?_)
  · skip
    have hk2 : k < l.length := by omega
    obtain ⟨q, e, hq⟩ := hA.at1 hk2
    obtain rfl := Option.some.inj e
    refine wpSkip ?_
    refine hF7 _ _ ?_; clear hF7
    refine wpSeq fun F9 hF9 => ?_
    refine wpBlock ?_
    refine wpRegion ?_
    refine seqQ rfl rfl (yMove (v := .int _ _) rfl rfl) ?_
    refine seqQ rfl rfl (yMove (v := .slice _ _ _) rfl rfl) ?_
    refine seqQ rfl rfl (yMove (v := .int _ _) rfl rfl) ?_
    refine seqQ rfl rfl (yIdx1 rfl Try.underlying44 Try.sizeOf3 rfl rfl rfl (by omega)) ?_
    refine seqQ rfl rfl (yLoad rfl Try.underlying3 rfl rfl hq) ?_
    refine seqQ rfl rfl (yMin rfl rfl rfl) ?_
    refine seqQ rfl rfl (yAssign (v := .int _ _) rfl rfl) ?_
    refine seqNil ?_
    refine hF9 _ _ ?_; clear hF9
    refine wpRegion ?_
    refine seqQ rfl rfl (yMove (v := .int _ _) rfl rfl) ?_
    refine seqQ rfl rfl (yAdd rfl rfl rfl (by unfold In64; omega)) ?_
    refine seqQ rfl rfl (yAssign (v := .int _ _) rfl rfl) ?_
    refine seqNil ?_
    -- end loop
    exact loopEnd (k + 1) (by repeat (first | (with_reducible exact Agree.refl _ _) | refine Agree.upd ?_ rfl | refine Agree.over ?_ rfl)) (by omega) ⟨by rw [take_next hk2, minL_snoc (take_ne hk1 hk)]; rfl, rfl, trivial⟩ ⟨by omega, by omega, rfl⟩
  · skip
    refine wpExit ?_
    refine hF5 _ _ ?_; clear hF5
    refine wpSeq fun F10 hF10 => ?_
    refine wpRegion ?_
    refine seqQ rfl rfl (yMove (v := .int _ _) rfl rfl) ?_
    refine seqQ rfl rfl (yAssign (v := .int _ _) rfl rfl) ?_
    refine seqNil ?_
    refine hF10 _ _ ?_; clear hF10
    -- ret
    refine wpRet (fin1 (v := .int _ _) rfl rfl ?_)
    exact ⟨by rw [List.take_of_length_le (by omega)], rfl⟩

set_option maxRecDepth 100000 in
theorem max_c (A : Option Addr) (c : Nat) (l : List Int) (H : Heap) (hA : Rd eInt H A l) (h1 : 1 ≤ l.length) (hm : l.length ≤ 1000000000) :
    CallsH Try.prog 75 [.slice A l.length c] H fun v H' => v = .int .i64 (maxL l) ∧ H' = H := by
  obtain ⟨p, rfl, hp⟩ := hA.at1 (k := 0) h1
  refine callsH_of Try.func75 rfl Try.ntmps75 (Nat.le_of_ble_eq_true rfl) ?_
  refine wpSeq fun F1 hF1 => ?_
  refine wpRegion ?_
  refine seqQ rfl rfl (yAssign (v := .int _ _) rfl rfl) ?_
  refine seqNil ?_
  refine hF1 _ _ ?_; clear hF1
  refine wpSeq fun F2 hF2 => ?_
  refine wpSeq fun F3 hF3 => ?_
  refine wpRegion ?_
  refine seqQ rfl rfl (yMove (v := .slice _ _ _) rfl rfl) ?_
  refine seqQ rfl rfl (yLen rfl Try.underlying44 rfl) ?_
  refine seqQ rfl rfl (yLss rfl rfl rfl) ?_
  refine seqNil ?_
  refine hF3 _ _ ?_; clear hF3
  -- if t7
  refine wpIf rfl (fun h => absurd h (by omega)) (fun _ => ?_)
  refine wpSkip ?_
  refine hF2 _ _ ?_; clear hF2
  refine wpSeq fun F4 hF4 => ?_
  refine wpRegion ?_
  refine seqQ rfl rfl (yMove (v := .slice _ _ _) rfl rfl) ?_
  refine seqQ rfl rfl (yIdx1 rfl Try.underlying44 Try.sizeOf3 rfl rfl rfl h1) ?_
  refine seqQ rfl rfl (yLoad rfl Try.underlying3 rfl rfl hp) ?_
  refine seqQ rfl rfl (yAssign (v := .int _ _) rfl rfl) ?_
  refine seqNil ?_
  refine hF4 _ _ ?_; clear hF4
  refine wpSeq fun F5 hF5 => ?_
  refine wpSeq fun F6 hF6 => ?_
  refine wpRegion ?_
  refine seqQ rfl rfl (yAssign (v := .int _ _) rfl rfl) ?_
  refine seqNil ?_
  refine hF6 _ _ ?_; clear hF6
  -- loop
  refine wpBlock ?_
  refine wpLoopS [3, 4, 12, 13, 14, 15, 16, 17, 18, 19, 20, 21, 22, 23] (fun k : Nat => [(3, .int .i64 (maxL (l.take k))), (4, .int .i64 k)]) (fun k H' => 1 ≤ k ∧ k ≤ l.length ∧ H' = H) (fun k => l.length - k) 1 ⟨by rw [take_next h1]; rfl, rfl, trivial⟩ ⟨Nat.le_refl _, h1, rfl⟩ ?_
  rintro k J H' ⟨hk1, hk, rfl⟩
  refine wpSeq fun F7 hF7 => ?_
  refine wpSeq fun F8 hF8 => ?_
  refine wpRegion ?_
  refine seqQ rfl rfl (yMove (v := .int _ _) rfl rfl) ?_
  refine seqQ rfl rfl (yMove (v := .slice _ _ _) rfl rfl) ?_
  refine seqQ rfl rfl (yLen rfl Try.underlying44 rfl) ?_
  refine seqQ rfl rfl (yLss rfl rfl rfl) ?_
  refine seqNil ?_
  refine hF8 _ _ ?_; clear hF8
  -- if t15
  refine wpIf rfl (fun hlt => ?_) (fun hlt => ?_)
  · skip
    have hk2 : k < l.length := by omega
    obtain ⟨q, e, hq⟩ := hA.at1 hk2
    obtain rfl := Option.some.inj e
    refine wpSkip ?_
    refine hF7 _ _ ?_; clear hF7
    refine wpSeq fun F9 hF9 => ?_
    refine wpBlock ?_
    refine wpRegion ?_
    refine seqQ rfl rfl (yMove (v := .int _ _) rfl rfl) ?_
    refine seqQ rfl rfl (yMove (v := .slice _ _ _) rfl rfl) ?_
    refine seqQ rfl rfl (yMove (v := .int _ _) rfl rfl) ?_
    refine seqQ rfl rfl (yIdx1 rfl Try.underlying44 Try.sizeOf3 rfl rfl rfl (by omega)) ?_
    refine seqQ rfl rfl (yLoad rfl Try.underlying3 rfl rfl hq) ?_
    refine seqQ rfl rfl (yMax rfl rfl rfl) ?_
    refine seqQ rfl rfl (yAssign (v := .int _ _) rfl rfl) ?_
    refine seqNil ?_
    refine hF9 _ _ ?_; clear hF9
    refine wpRegion ?_
    refine seqQ rfl rfl (yMove (v := .int _ _) rfl rfl) ?_
    refine seqQ rfl rfl (yAdd rfl rfl rfl (by unfold In64; omega)) ?_
    refine seqQ rfl rfl (yAssign (v := .int _ _) rfl rfl) ?_
    refine seqNil ?_
    -- end loop
    exact loopEnd (k + 1) (by repeat (first | (with_reducible exact Agree.refl _ _) | refine Agree.upd ?_ rfl | refine Agree.over ?_ rfl)) (by omega) ⟨by rw [take_next hk2, maxL_snoc (take_ne hk1 hk)]; rfl, rfl, trivial⟩ ⟨by omega, by omega, rfl⟩
  · skip
    refine wpExit ?_
    refine hF5 _ _ ?_; clear hF5
    refine wpSeq fun F10 hF10 => ?_
    refine wpRegion ?_
    refine seqQ rfl rfl (yMove (v := .int _ _) rfl rfl) ?_
    refine seqQ rfl rfl (yAssign (v := .int _ _) rfl rfl) ?_
    refine seqNil ?_
    refine hF10 _ _ ?_; clear hF10
    -- ret
    refine wpRet (fin1 (v := .int _ _) rfl rfl ?_)
    exact ⟨by rw [List.take_of_length_le (by omega)], rfl⟩

/-- A clock is valid. -/
def okC (c : List Int) : Bool := decide (1 ≤ c.length ∧ c.length ≤ 6 ∧ (∀ x ∈ c, 0 ≤ x) ∧ ∀ x ∈ c, x ≤ 1099511627776)
set_option maxRecDepth 100000 in
theorem okC_of {c : List Int} (h : okC c = true) : 1 ≤ c.length ∧ c.length ≤ 6 ∧ (∀ x ∈ c, 0 ≤ x) ∧ ∀ x ∈ c, x ≤ 1099511627776 := of_decide_eq_true h
set_option maxRecDepth 100000 in
theorem valid_c (A : Option Addr) (c : Nat) (l : List Int) (H : Heap) (hA : Rd eInt H A l) (hm : l.length ≤ 1000000000) :
    CallsH Try.prog 45 [.slice A l.length c] H fun v H' => v = .bool (okC l) ∧ H' = H := by
  refine callsH_of Try.func45 rfl Try.ntmps45 (Nat.le_of_ble_eq_true rfl) ?_
  refine wpSeq fun F1 hF1 => ?_
  refine wpRegion ?_
  refine seqQ rfl rfl (yAssign (v := .bool _) rfl rfl) ?_
  refine seqNil ?_
  refine hF1 _ _ ?_; clear hF1
  refine wpSeq fun F2 hF2 => ?_
  refine wpRegion ?_
  refine seqQ rfl rfl (yMove (v := .slice _ _ _) rfl rfl) ?_
  refine seqQ rfl rfl (yLen rfl Try.underlying44 rfl) ?_
  refine seqQ rfl rfl (yGeq rfl rfl rfl) ?_
  -- guard t6
  refine seqG rfl rfl rfl rfl (fun h1 => ?_) (fun h1 => ?_)
  · skip
    refine seqQ rfl rfl (yMove (v := .slice _ _ _) rfl rfl) ?_
    refine seqQ rfl rfl (yLen rfl Try.underlying44 rfl) ?_
    refine seqQ rfl rfl (yLeq rfl rfl rfl) ?_
    refine seqQ rfl rfl (yPickT (v := .bool _) rfl rfl rfl) ?_
    -- guard t11
    refine seqGB rfl rfl rfl rfl (fun h6 => ?_) (fun h6 => ?_)
    · skip
      have h6 : l.length ≤ 6 := by simp at h6; omega
      have hne : l ≠ [] := by intro e; subst e; simp at h1
      refine seqQ rfl rfl (yMove (v := .slice _ _ _) rfl rfl) ?_
      -- e slot 13: call F74<slices.Min[farandole/vclock.Clock,int]> t12
      refine seqE rfl rfl (stepCall rfl Try.call74 rfl ?_)
      refine (min_c A c l H hA (by omega) hm).mono ?_
      rintro v H1 ⟨rfl, rfl⟩
      refine seqQ rfl rfl (yGeq rfl rfl rfl) ?_
      refine seqQ rfl rfl (yPickT (v := .bool _) rfl rfl rfl) ?_
      -- guard t16
      refine seqGB rfl rfl rfl rfl (fun hmin => ?_) (fun hmin => ?_)
      · skip
        have hmin : 0 ≤ minL l := by simpa using hmin
        rw [le_minL 0 l hne] at hmin
        refine seqQ rfl rfl (yMove (v := .slice _ _ _) rfl rfl) ?_
        -- e slot 18: call F75<slices.Max[farandole/vclock.Clock,int]> t17
        refine seqE rfl rfl (stepCall rfl Try.call75 rfl ?_)
        refine (max_c A c l H1 hA (by omega) hm).mono ?_
        rintro v H2 ⟨rfl, rfl⟩
        refine seqQ rfl rfl (yLeq rfl rfl rfl) ?_
        refine seqQ rfl rfl (yPickT (v := .bool _) rfl rfl rfl) ?_
        refine seqQ rfl rfl (yAssign (v := .bool _) rfl rfl) ?_
        refine seqNil ?_
        refine hF2 _ _ ?_; clear hF2
        -- ret
        refine wpRet (fin1 (v := .bool _) rfl rfl ?_)
        refine ⟨?_, rfl⟩
        have e1 := maxL_le 1099511627776 l hne
        unfold okC
        show Value.bool (decide _) = _
        congr 1
        rw [decide_eq_decide, e1]
        exact ⟨fun h => ⟨by omega, h6, hmin, h⟩, fun h => h.2.2.2⟩
      · skip
        have hmin : ¬ 0 ≤ minL l := by simpa using hmin
        rw [le_minL 0 l hne] at hmin
        refine seqU rfl rfl ?_
        refine seqU rfl rfl ?_
        refine seqU rfl rfl ?_
        refine seqQ rfl rfl (yPickF (v := .bool _) rfl rfl rfl) ?_
        refine seqQ rfl rfl (yAssign (v := .bool _) rfl rfl) ?_
        refine seqNil ?_
        refine hF2 _ _ ?_; clear hF2
        -- ret
        refine wpRet (fin1 (v := .bool _) rfl rfl ?_)
        exact ⟨by unfold okC; rw [decide_eq_false (fun h => hmin h.2.2.1)], rfl⟩
    · skip
      have h6 : ¬ l.length ≤ 6 := by simp at h6; omega
      refine seqU rfl rfl ?_
      refine seqU rfl rfl ?_
      refine seqU rfl rfl ?_
      refine seqQ rfl rfl (yPickF (v := .bool _) rfl rfl rfl) ?_
      refine seqQ rfl rfl (yMove (v := .bool false) rfl rfl) ?_
      refine seqU rfl rfl ?_
      refine seqU rfl rfl ?_
      refine seqU rfl rfl ?_
      refine seqQ rfl rfl (yPickF (v := .bool _) rfl rfl rfl) ?_
      refine seqQ rfl rfl (yAssign (v := .bool _) rfl rfl) ?_
      refine seqNil ?_
      refine hF2 _ _ ?_; clear hF2
      -- ret
      refine wpRet (fin1 (v := .bool _) rfl rfl ?_)
      exact ⟨by unfold okC; rw [decide_eq_false (fun h => h6 h.2.1)], rfl⟩
  · skip
    refine seqU rfl rfl ?_
    refine seqU rfl rfl ?_
    refine seqU rfl rfl ?_
    refine seqQ rfl rfl (yPickF (v := .bool _) rfl rfl rfl) ?_
    refine seqQ rfl rfl (yMove (v := .bool false) rfl rfl) ?_
    refine seqU rfl rfl ?_
    refine seqU rfl rfl ?_
    refine seqU rfl rfl ?_
    refine seqQ rfl rfl (yPickF (v := .bool _) rfl rfl rfl) ?_
    refine seqQ rfl rfl (yMove (v := .bool false) rfl rfl) ?_
    refine seqU rfl rfl ?_
    refine seqU rfl rfl ?_
    refine seqU rfl rfl ?_
    refine seqQ rfl rfl (yPickF (v := .bool _) rfl rfl rfl) ?_
    refine seqQ rfl rfl (yAssign (v := .bool _) rfl rfl) ?_
    refine seqNil ?_
    refine hF2 _ _ ?_; clear hF2
    -- ret
    refine wpRet (fin1 (v := .bool _) rfl rfl ?_)
    exact ⟨by unfold okC; rw [decide_eq_false (fun h => h1 (by omega))], rfl⟩

set_option maxRecDepth 100000 in
theorem atMost_c (A B : Option Addr) (ca cb : Nat) (a b : List Int) (H : Heap) (hA : Rd eInt H A a) (hB : Rd eInt H B b) (hl : a.length = b.length) (hm : a.length ≤ 1000000000) :
    CallsH Try.prog 59 [.slice A a.length ca, .slice B b.length cb] H fun v H' => v = .bool (leB a b) ∧ H' = H := by
  refine callsH_of Try.func59 rfl Try.ntmps59 (Nat.le_of_ble_eq_true rfl) ?_
  refine wpSeq fun F1 hF1 => ?_
  refine wpRegion ?_
  refine seqQ rfl rfl (yAssign (v := .bool _) rfl rfl) ?_
  refine seqNil ?_
  refine hF1 _ _ ?_; clear hF1
  refine wpSeq fun F2 hF2 => ?_
  refine wpSeq fun F3 hF3 => ?_
  refine wpRegion ?_
  refine seqQ rfl rfl (yMove (v := .slice _ _ _) rfl rfl) ?_
  refine seqQ rfl rfl (yLen rfl Try.underlying44 rfl) ?_
  refine seqQ rfl rfl (yMove (v := .int _ _) rfl rfl) ?_
  refine seqNil ?_
  refine hF3 _ _ ?_; clear hF3
  -- loop
  refine wpBlock ?_
  refine wpLoopS [4, 5, 8, 9, 10, 11, 12, 13, 14, 15, 16, 17, 18, 19, 20] (fun k : Nat => [(8, .int .i64 k)]) (fun k H' => k ≤ a.length ∧ H' = H ∧ leB (a.drop k) (b.drop k) = leB a b) (fun k => a.length - k) 0 ⟨rfl, trivial⟩ ⟨Nat.zero_le _, rfl, rfl⟩ ?_
  rintro k J H' ⟨hk, rfl, hd⟩
  refine wpSeq fun F4 hF4 => ?_
  refine wpRegion ?_
  refine seqQ rfl rfl (yLss rfl rfl rfl) ?_
  refine seqNil ?_
  refine hF4 _ _ ?_; clear hF4
  refine wpSeq fun F5 hF5 => ?_
  -- if t9
  refine wpIf rfl (fun hlt => ?_) (fun hlt => ?_)
  · skip
    have hka : k < a.length := by omega
    have hkb : k < b.length := by omega
    obtain ⟨p, rfl, hp⟩ := hA.at1 hka
    obtain ⟨q, rfl, hq⟩ := hB.at1 hkb
    rw [leB_step hka hkb] at hd
    refine wpSkip ?_
    refine hF5 _ _ ?_; clear hF5
    refine wpSeq fun F6 hF6 => ?_
    refine wpBlock ?_
    refine wpSeq fun F7 hF7 => ?_
    refine wpRegion ?_
    refine seqQ rfl rfl (yMove (v := .int _ _) rfl rfl) ?_
    refine seqQ rfl rfl (yAssign (v := .int _ _) rfl rfl) ?_
    refine seqNil ?_
    refine hF7 _ _ ?_; clear hF7
    refine wpSeq fun F8 hF8 => ?_
    refine wpRegionD Try_mixed [.q, .q, .q, .q, .q, .q, .q, .q, .q] 8 [0, 0, 3, 7, 0, 0, 48, 112, 255] [] (by kernel_rfl) _ rfl [0, 1, 2, 3, 4, 5, 6, 7] rfl (by simp) ?_
    refine lexQ rfl rfl rfl rfl (fun H hM => (yMove (v := .slice _ _ _) rfl rfl)) ?_
    refine lexQ rfl rfl rfl rfl (fun H hM => (yMove (v := .int _ _) rfl rfl)) ?_
    refine lexQ rfl rfl rfl rfl (fun H hM => (yIdx1 rfl Try.underlying44 Try.sizeOf3 rfl rfl rfl (by omega))) ?_
    refine lexQ rfl rfl rfl rfl (fun H hM => (yLoad rfl Try.underlying3 rfl rfl (hM.ext.cell hp))) ?_
    refine lexQ rfl rfl rfl rfl (fun H hM => (yMove (v := .slice _ _ _) rfl rfl)) ?_
    refine lexQ rfl rfl rfl rfl (fun H hM => (yMove (v := .int _ _) rfl rfl)) ?_
    refine lexQ rfl rfl rfl rfl (fun H hM => (yIdx1 rfl Try.underlying44 Try.sizeOf3 rfl rfl rfl (by omega))) ?_
    refine lexQ rfl rfl rfl rfl (fun H hM => (yLoad rfl Try.underlying3 rfl rfl (hM.ext.cell hq))) ?_
    -- tail
    refine lexNil0 rfl (fun hM => ?_)
    refine seqQ rfl rfl (yGtr rfl rfl rfl) ?_
    refine seqNil ?_
    refine hF8 _ _ ?_; clear hF8
    -- if t19
    refine wpIf rfl (fun hgt => ?_) (fun hgt => ?_)
    · skip
      refine wpSeq fun F9 hF9 => ?_
      refine wpRegion ?_
      refine seqQ rfl rfl (yAssign (v := .bool _) rfl rfl) ?_
      refine seqNil ?_
      refine hF9 _ _ ?_; clear hF9
      -- ret
      refine wpRet (fin1 (v := .bool _) rfl rfl ?_)
      have : ¬ a[k] ≤ b[k] := by omega
      exact ⟨by rw [← hd]; simp [this], rfl⟩
    · skip
      refine wpSkip ?_
      refine hF6 _ _ ?_; clear hF6
      refine wpRegion ?_
      refine seqQ rfl rfl (yAdd rfl rfl rfl (by unfold In64; omega)) ?_
      refine seqQ rfl rfl (yMove (v := .int _ _) rfl rfl) ?_
      refine seqNil ?_
      -- end loop
      have : a[k] ≤ b[k] := by omega
      exact loopEnd (k + 1) (by repeat (first | (with_reducible exact Agree.refl _ _) | refine Agree.upd ?_ rfl | refine Agree.over ?_ rfl)) (by omega) ⟨rfl, trivial⟩ ⟨by omega, rfl, by rw [← hd]; simp [this]⟩
  · skip
    refine wpExit ?_
    refine hF2 _ _ ?_; clear hF2
    refine wpSeq fun F10 hF10 => ?_
    refine wpRegion ?_
    refine seqQ rfl rfl (yAssign (v := .bool _) rfl rfl) ?_
    refine seqNil ?_
    refine hF10 _ _ ?_; clear hF10
    -- ret
    refine wpRet (fin1 (v := .bool _) rfl rfl ?_)
    have : k = a.length := by omega
    subst this
    exact ⟨by rw [← hd, List.drop_length]; rfl, rfl⟩

end Go.Proofs.Ytbanngdijmglbaa
