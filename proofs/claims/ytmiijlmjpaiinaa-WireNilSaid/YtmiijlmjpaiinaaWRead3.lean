/- Walks over package wire: Left, End, Int; Same. -/
import Derived.Test.YtmiijlmjpaiinaaWRead2
import Derived.Laws.BytesArg
import Derived.Laws.StructEq
namespace Go.Proofs.Ytmiijlmjpaiinaa
open Go.RowKit

/-- The string of these bytes. -/
def strOf (x : List UInt8) : ByteArray := ⟨x.toArray⟩
theorem strOf_list (x : List UInt8) : (strOf x).data.toList = x := rfl
theorem strOf_inj {x y : List UInt8} (h : strOf x = strOf y) : x = y := by
  have := congrArg (fun s => s.data.toList) h
  exact this
theorem strOf_of (s : ByteArray) : strOf s.data.toList = s := by cases s; simp [strOf]

theorem conv_str {w : World} {A : Option Addr} {x : List UInt8} (h : Rd U8 w A x) (c : Nat) : (convert 29 9 (.slice A x.length c)).run Try.prog w = .ok (.string (strOf x)) w := by
  cases A with
  | none =>
    have : x = [] := by
      cases x with
      | nil => rfl
      | cons y r =>
        obtain ⟨ad, e, _⟩ := h.2 (by simp)
        cases e
    subst this
    exact run_convert_bytes_nil w _ 5 Try.underlying29 Try.underlying5 0 c _ Try.underlying9
  | some ad =>
    have hl : (loadCells ad x.length).run Try.prog w = .ok ((x.map fun b => (b.toNat : Int)).map (Value.int .u8)).toArray w := by
      have := run_loadCells_list (P := Try.prog) w ad (x.map U8) (fun j v hj => by
        have hj' : j < x.length := by simpa using (List.getElem?_eq_some_iff.1 hj).1
        obtain ⟨ad', e, _, hc⟩ := h.2 (by omega)
        obtain rfl := Option.some.inj e
        exact hc j v hj)
      rw [List.length_map] at this
      rw [this, List.map_map]
      rfl
    rw [run_convert_bytes_string w _ _ 5 _ x.length c Try.underlying29 Try.underlying5 Try.underlying9, run_bytesToString w _ x.length c _ hl, foldl_push_bytes]
    have e0 : (List.map (fun n : Int => UInt8.ofNat n.toNat) (x.map fun b => (b.toNat : Int))) = x := by
      rw [List.map_map]
      refine (List.map_congr_left (g := id) fun b _ => ?_).trans (List.map_id _)
      simp
    rw [e0]
    have e1 : (ByteArray.empty.data ++ x.toArray) = x.toArray := by apply Array.toList_inj.1; simp [ByteArray.empty, ByteArray.emptyWithCapacity]; rfl
    rw [e1]
    rfl

set_option maxHeartbeats 400000 in
theorem same_c (A B : Option Addr) (c d : Nat) (x y : List UInt8) (w : World) (hx : Rd U8 w A x) (hy : Rd U8 w B y) :
    Calls Try.prog 10 #[.slice A x.length c, .slice B y.length d] w fun e w' => e = .returned (.bool (decide (x = y))) ∧ w = w' := by
  have g1 := conv_str hx c
  have g2 := conv_str hy d
  clear hx hy
  have e1 : ((strOf x).toList == (strOf y).toList) = decide (x = y) := by
    rw [ByteArray.toList_eq, ByteArray.toList_eq, Bool.eq_iff_iff, beq_iff_eq, decide_eq_true_iff]
    exact Iff.rfl
  have HE := hide e1
  clear e1
  go_enter Try.func10, Try.ntmps10
  go_wp2
  go_ret
  exact ⟨by rw [← HE.out]; rfl, rfl⟩

set_option maxHeartbeats 400000 in
theorem left_c (g : Nat) (b : List UInt8) (k : Nat) (f : Bool) (w : World) (h : RS w g b k f) :
    Calls Try.prog 28 #[.pointer (some ⟨g, 0, none⟩)] w fun e w' => e = .returned (.int .i64 ((b.length - k : Nat) : Int)) ∧ Quiet w w' := by
  obtain ⟨A, c, c0, c1, c2, hfz, hrd, hbc, hA⟩ := h.open_
  have hle := h.le
  have s1 : IntKind.i64.wrap ((b.length : Int) - k) = ((b.length - k : Nat) : Int) := by rw [show (b.length : Int) - k = ((b.length - k : Nat) : Int) by omega]; exact IntWalk.i64_in _ (by omega)
  have H := hide h
  clear hfz h hrd hA
  go_enter Try.func28, Try.ntmps28
  go_wp2
  go_quiet (fail)
  go_wp2
  go_ret
  exact ⟨rfl, Quiet.d1 _ _⟩

theorem left_nil (w : World) : Calls Try.prog 28 #[.pointer none] w fun e w' => e = .returned (.int .i64 0) ∧ w = w' := by
  go_enter Try.func28, Try.ntmps28
  go_wp2
  go_ret
  exact ⟨rfl, rfl⟩
theorem end_nil (w : World) : Calls Try.prog 29 #[.pointer none] w fun e w' => e = .returned (.int .i64 7) ∧ w = w' := by
  go_enter Try.func29, Try.ntmps29
  go_wp2
  go_ret
  exact ⟨rfl, rfl⟩

/-- What End says. -/
def endN (b : List UInt8) (k : Nat) (f : Bool) : Int := if f = true ∨ k < b.length then 4 else 0

set_option maxHeartbeats 400000 in
theorem end_c (g : Nat) (b : List UInt8) (k : Nat) (f : Bool) (w : World) (h : RS w g b k f) :
    Calls Try.prog 29 #[.pointer (some ⟨g, 0, none⟩)] w fun e w' => e = .returned (.int .i64 (endN b k f)) ∧ Quiet w w' := by
  obtain ⟨A, c, c0, c1, c2, hfz, hrd, hbc, hA⟩ := h.open_
  have hle := h.le
  have H := hide h
  clear hfz h hrd hA c0 c1
  cases f with
  | true =>
    go_enter Try.func29, Try.ntmps29
    go_wp2
    go_ret
    exact ⟨by simp [endN], Quiet.refl _⟩
  | false =>
    by_cases hk : k < b.length
    · go_enter Try.func29, Try.ntmps29
      go_wp2_with fail
      refine (left_c g b k false w H.out).mono ?_
      rintro e w1 ⟨rfl, q, rfl⟩
      have hpos : 0 < b.length - k := by omega
      go_wp2
      go_ret
      exact ⟨by simp [endN, hk], ⟨q, rfl⟩⟩
    · go_enter Try.func29, Try.ntmps29
      go_wp2_with fail
      refine (left_c g b k false w H.out).mono ?_
      rintro e w1 ⟨rfl, q, rfl⟩
      have hz : b.length - k = 0 := by omega
      rw [hz]
      go_wp2
      go_ret
      exact ⟨by simp [endN, hk], ⟨q, rfl⟩⟩

/-- What a read method of the reader leaves: what is read, and the reader behind it; or a zero, and the reader where it was, failed. -/
def ReadPost {α : Type} (rd : List UInt8 → Option (α × List UInt8)) (val : World → α → Value → Prop) (zero : Value) (g : Nat) (b : List UInt8) (k : Nat) (w : World) (e : Ending) (w' : World) : Prop :=
  w.grownBy w' (some g) ∧ match rd (b.drop k) with
  | some (x, r) => ∃ v j, e = .returned v ∧ val w' x v ∧ b.drop j = r ∧ RS w' g b j false
  | none => e = .returned zero ∧ RS w' g b k true

def isInt (_ : World) (n : Int) (v : Value) : Prop := v = .int .i64 n

theorem ReadPost.good {α : Type} {rd : List UInt8 → Option (α × List UInt8)} {val : World → α → Value → Prop} {zero : Value} {g : Nat} {b : List UInt8} {k j : Nat} {w w' : World} {e : Ending} {x : α} {r : List UInt8} {v : Value}
    (h : rd (b.drop k) = some (x, r)) (hg : w.grownBy w' (some g)) (he : e = .returned v) (hv : val w' x v) (hd : b.drop j = r) (hr : RS w' g b j false) : ReadPost rd val zero g b k w e w' := by
  refine ⟨hg, ?_⟩
  rw [h]
  exact ⟨v, j, he, hv, hd, hr⟩
theorem ReadPost.bad {α : Type} {rd : List UInt8 → Option (α × List UInt8)} {val : World → α → Value → Prop} {zero : Value} {g : Nat} {b : List UInt8} {k : Nat} {w w' : World} {e : Ending}
    (h : rd (b.drop k) = none) (hg : w.grownBy w' (some g)) (he : e = .returned zero) (hr : RS w' g b k true) : ReadPost rd val zero g b k w e w' := by
  refine ⟨hg, ?_⟩
  rw [h]
  exact ⟨he, hr⟩
theorem ReadPost.of_some {α : Type} {rd : List UInt8 → Option (α × List UInt8)} {val : World → α → Value → Prop} {zero : Value} {g : Nat} {b : List UInt8} {k : Nat} {w w' : World} {e : Ending} {x : α} {r : List UInt8}
    (h : ReadPost rd val zero g b k w e w') (hr : rd (b.drop k) = some (x, r)) : w.grownBy w' (some g) ∧ ∃ v j, e = .returned v ∧ val w' x v ∧ b.drop j = r ∧ RS w' g b j false := by
  obtain ⟨h1, h2⟩ := h
  rw [hr] at h2
  exact ⟨h1, h2⟩
theorem ReadPost.of_none {α : Type} {rd : List UInt8 → Option (α × List UInt8)} {val : World → α → Value → Prop} {zero : Value} {g : Nat} {b : List UInt8} {k : Nat} {w w' : World} {e : Ending}
    (h : ReadPost rd val zero g b k w e w') (hr : rd (b.drop k) = none) : w.grownBy w' (some g) ∧ e = .returned zero ∧ RS w' g b k true := by
  obtain ⟨h1, h2⟩ := h
  rw [hr] at h2
  exact ⟨h1, h2⟩

set_option maxHeartbeats 400000 in
theorem Int_c (g : Nat) (b : List UInt8) (k : Nat) (w : World) (h : RS w g b k false) :
    Calls Try.prog 30 #[.pointer (some ⟨g, 0, none⟩)] w (ReadPost rdI isInt (.int .i64 0) g b k w) := by
  obtain ⟨A, c, c0, c1, c2, hfz, hrd, hbc, hA⟩ := h.open_
  have H := hide h
  clear hfz h hrd hA c0
  go_enter Try.func30, Try.ntmps30
  go_wp2_with fail
  go_enter Try.func41, Try.ntmps41
  go_wp2_with fail
  refine (integer_c g b k w H.out).mono ?_
  rintro e w1 ⟨hg, hi⟩
  have HG := hide hg
  rcases hr : rdI (b.drop k) with _ | ⟨n, r⟩
  · rw [hr] at hi
    obtain ⟨z, j, rfl, h1⟩ := hi
    obtain ⟨A2, c2', d0, d1, d2, hfz, -, -, -⟩ := h1.open_
    have f1 := hfz 1
    have H1 := hide h1
    have HR := hide hr
    clear hfz h1 d0 hg hr
    go_wp2
    go_ret
    exact .bad HR.out (grown_trans HG.out (grown_setCell _ _ _ _)) rfl (H1.out.set_at H.out.le.1)
  · rw [hr] at hi
    obtain ⟨rfl, hl, hd, h1⟩ := hi
    obtain ⟨A2, c2', d0, d1, d2, hfz, -, -, -⟩ := h1.open_
    have H1 := hide h1
    have HD := hide hd
    have HR := hide hr
    clear hfz h1 d0 hg hr hd
    go_wp2
    go_ret
    exact .good HR.out HG.out rfl rfl HD.out H1.out

end Go.Proofs.Ytmiijlmjpaiinaa
