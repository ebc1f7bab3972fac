/- Walks over layer 1's statements: the helpers that compare values and look at lengths. -/
import Derived.Test.YtmiijlmjpaiinaaWAwake
namespace Go.Proofs.Ytmiijlmjpaiinaa
open Go.RowKit

instance : DecidableEq Val := fun a b => decidable_of_iff (a.kind = b.kind ∧ a.n = b.n ∧ a.s = b.s) (by cases a; cases b; simp)
def eqV (x y : Val) : Bool := x.kind == y.kind && (x.n == y.n && x.s.toList == y.s.toList)
theorem toList_inj {a b : ByteArray} (h : a.toList = b.toList) : a = b := by
  rw [ByteArray.toList_eq, ByteArray.toList_eq] at h
  cases a; cases b
  simpa using Array.toList_inj.1 h
theorem eqV_iff {x y : Val} : eqV x y = true ↔ x = y := by
  unfold eqV
  simp only [Bool.and_eq_true, beq_iff_eq]
  constructor
  · rintro ⟨h1, h2, h3⟩
    cases x; cases y
    simp only [Val.mk.injEq]
    exact ⟨h1, h2, toList_inj h3⟩
  · rintro rfl
    exact ⟨rfl, rfl, rfl⟩
/-- A proper value. -/
def properV (v : Val) : Bool := (v.kind == 1 && v.s.toList == []) || (v.kind == 2 && v.n == 0)

theorem take_succ_eq {α : Type} {l m : List α} {k : Nat} {x y : α} (h : l.take k = m.take k) (hx : l[k]? = some x) (hy : m[k]? = some y) (e : x = y) : l.take (k + 1) = m.take (k + 1) := by
  rw [List.take_add_one, List.take_add_one, h, hx, hy, e]

set_option maxHeartbeats 1000000 in
theorem sameValues_c (A B : Option Addr) (c d : Nat) (xs ys : List Val) (w : World) (hn : xs.length ≤ 1000000) (hm : ys.length ≤ 1000000) (ha : RdVals w A xs) (hb : RdVals w B ys) :
    Calls Try.prog 15 #[.slice A xs.length c, .slice B ys.length d] w fun e w' => e = .returned (.bool (decide (xs = ys))) ∧ Quiet w w' := by
  by_cases hl : xs.length = ys.length
  · have h0 : ((xs.length : Int) != ys.length) = false := by simp [hl]
    go_enter Try.func15, Try.ntmps15
    go_wp2
    go_loopw [5] (fun i wr => ∃ k : Nat, k ≤ xs.length ∧ i = .int .i64 k ∧ Hid (xs.take k = ys.take k) ∧ Quiet w wr) (fun i _ => xs.length - (intOf i).toNat)
    case atStart => exact ⟨0, Nat.zero_le _, rfl, by show _ = _; simp, Quiet.refl _⟩
    case round =>
      obtain ⟨k, hk, rfl, HT, HQ⟩ := hrel
      have HQ := hide HQ
      by_cases hlt : k < xs.length
      · obtain ⟨p, o, x, rfl, -, hx, hpl, h1, h2, h3⟩ := (ha.ext HQ.out.ext).at_ hlt
        obtain ⟨p', o', y, rfl, -, hy, hpl', h1', h2', h3'⟩ := (hb.ext HQ.out.ext).at_ (show k < ys.length by omega)
        have HX := hide hx
        have HY := hide hy
        clear hx hy ha hb
        have hk2 : k < ys.length := by omega
        have HT1 : Hid (eqV x y = true → xs.take (k + 1) = ys.take (k + 1)) := fun h => take_succ_eq HT.out HX.out HY.out (eqV_iff.1 h)
        have HN1 : Hid (eqV x y = false → decide (xs = ys) = false) := fun h => decide_eq_false fun e => by
          subst e
          have := HX.out.symm.trans HY.out
          rw [eqV_iff.2 (Option.some.inj this)] at h
          cases h
        clear HT HX HY
        cases g1 : x.kind == y.kind
        · have HN : Hid (decide (xs = ys) = false) := HN1.out (by simp [eqV, g1])
          go_wp2
          go_quiet (fail)
          go_wp2
          go_ret
          exact ⟨by rw [HN.out]; rfl, HQ.out.trans (Quiet.d1 _ _)⟩
        · cases g2 : x.n == y.n
          · have HN : Hid (decide (xs = ys) = false) := HN1.out (by simp [eqV, g1, g2])
            go_wp2
            go_quiet (fail)
            go_wp2
            go_ret
            exact ⟨by rw [HN.out]; rfl, HQ.out.trans (Quiet.d1 _ _)⟩
          · cases g3 : x.s.toList == y.s.toList
            · have HN : Hid (decide (xs = ys) = false) := HN1.out (by simp only [eqV, g1, g2, g3]; rfl)
              go_wp2
              go_quiet (fail)
              go_wp2
              go_ret
              exact ⟨by rw [HN.out]; rfl, HQ.out.trans (Quiet.d1 _ _)⟩
            · have HT : Hid (xs.take (k + 1) = ys.take (k + 1)) := HT1.out (by simp only [eqV, g1, g2, g3]; rfl)
              go_wp2
              go_quiet (fail)
              go_wp2
              go_roundw
              case rel => exact ⟨k + 1, by omega, by go_num, HT, HQ.out.trans (Quiet.d1 _ _)⟩
              case measure => simp [intOf]; omega
      · have ht := HT.out
        rw [List.take_of_length_le (by omega), List.take_of_length_le (by omega)] at ht
        have HE : Hid (decide (xs = ys) = true) := decide_eq_true ht
        clear ht
        go_wp2
        go_ret
        exact ⟨by rw [HE.out]; rfl, HQ.out⟩
  · have h0 : ((xs.length : Int) != ys.length) = true := by simp; omega
    have HE : Hid (decide (xs = ys) = false) := decide_eq_false (fun h => hl (by rw [h]))
    clear hl
    go_enter Try.func15, Try.ntmps15
    go_wp2
    go_ret
    exact ⟨by rw [HE.out]; rfl, Quiet.refl _⟩

set_option maxHeartbeats 400000 in
theorem fewValues_c (A : Option Addr) (c : Nat) (xs : List Val) (w : World) (hn : xs.length ≤ 9223372036854775807) (ha : RdVals w A xs) :
    Calls Try.prog 9 #[.slice A xs.length c] w fun e w' => e = .returned (.bool (xs.all (fun x => decide (x.s.size ≤ 200)) && decide (xs.length ≤ 40))) ∧ w = w' := by
  go_enter Try.func9, Try.ntmps9
  go_wp2
  go_loopw [3] (fun i wr => ∃ k : Nat, k ≤ xs.length ∧ i = .int .i64 k ∧ Hid (∀ x ∈ xs.take k, x.s.size ≤ 200) ∧ w = wr) (fun i _ => xs.length - (intOf i).toNat)
  case atStart => exact ⟨0, Nat.zero_le _, rfl, by show ∀ x ∈ _, _; simp, rfl⟩
  case round =>
    obtain ⟨k, hk, rfl, HT, rfl⟩ := hrel
    by_cases hlt : k < xs.length
    · obtain ⟨p, o, x, rfl, -, hx, hpl, h1, h2, h3⟩ := ha.at_ hlt
      have HX := hide hx
      clear hx ha
      by_cases hs : 200 < x.s.size
      · have HE : Hid (xs.all (fun x => decide (x.s.size ≤ 200)) = false) := by
          show _ = _
          rw [List.all_eq_false]
          exact ⟨x, List.mem_of_getElem? HX.out, by simp; omega⟩
        go_wp2
        go_ret
        exact ⟨by rw [HE.out]; rfl, by first | rfl | trivial⟩
      · go_wp2
        go_roundw
        case rel =>
          refine ⟨k + 1, by omega, by go_num, ?_, by first | rfl | trivial⟩
          show ∀ x ∈ _, _
          rw [List.take_add_one, HX.out]
          intro z hz
          rw [List.mem_append] at hz
          rcases hz with hz | hz
          · exact HT.out z hz
          · simp at hz; subst hz; omega
        case measure => simp [intOf]; omega
    · have ht := HT.out
      rw [List.take_of_length_le (by omega)] at ht
      have HE : Hid (xs.all (fun x => decide (x.s.size ≤ 200)) = true) := by
        show _ = _
        rw [List.all_eq_true]
        intro x hx
        exact decide_eq_true (ht x hx)
      clear ht ha
      by_cases hc : xs.length ≤ 40
      · go_wp2
        go_ret
        exact ⟨by rw [HE.out]; simp [hc]; try omega, by first | rfl | trivial⟩
      · go_wp2
        go_ret
        exact ⟨by rw [HE.out]; simp [hc]; try omega, by first | rfl | trivial⟩

set_option maxHeartbeats 400000 in
theorem proper_c (x : Val) (w : World) :
    Calls Try.prog 13 #[.agg #[.int .i64 x.kind, .int .i64 x.n, .string x.s]] w fun e w' => e = .returned (.bool (properV x)) ∧ Ext w w' := by
  obtain ⟨kind, n, s⟩ := x
  dsimp only
  by_cases h1 : kind = 1
  · have g1 : (kind == 1) = true := by simp [h1]
    have g2 : (kind == 2) = false := by simp [h1]
    cases g3 : s.toList == []
    · go_enter Try.func13, Try.ntmps13
      go_wp2
      go_ret
      exact ⟨by simp [properV, g1, g2, g3], (Ext.refl _).alloc _⟩
    · go_enter Try.func13, Try.ntmps13
      go_wp2
      go_ret
      exact ⟨by simp [properV, g1, g2, g3], (Ext.refl _).alloc _⟩
  · have g1 : (kind == 1) = false := by simp [h1]
    by_cases h2 : kind = 2
    · have g2 : (kind == 2) = true := by simp [h2]
      cases g3 : n == 0
      · go_enter Try.func13, Try.ntmps13
        go_wp2
        go_ret
        exact ⟨by simp [properV, g1, g2, g3], (Ext.refl _).alloc _⟩
      · go_enter Try.func13, Try.ntmps13
        go_wp2
        go_ret
        exact ⟨by simp [properV, g1, g2, g3], (Ext.refl _).alloc _⟩
    · have g2 : (kind == 2) = false := by simp [h2]
      go_enter Try.func13, Try.ntmps13
      go_wp2
      go_ret
      exact ⟨by simp [properV, g1, g2], (Ext.refl _).alloc _⟩

end Go.Proofs.Ytmiijlmjpaiinaa
