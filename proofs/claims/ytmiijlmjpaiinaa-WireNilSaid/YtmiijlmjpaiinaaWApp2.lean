/- Walks over package wire: values and events are appended. -/
import Derived.Test.YtmiijlmjpaiinaaWApp
namespace Go.Proofs.Ytmiijlmjpaiinaa
open Go.RowKit

/-- A value as a struct value; its cells. -/
def VAgg (x : Val) : Value := .agg #[.int .i64 x.kind, .int .i64 x.n, .string x.s]
def VCells (x : Val) : List Value := [.int .i64 x.kind, .int .i64 x.n, .string x.s]
def OkV (x : Val) : Prop := P64 x.kind ∧ P64 x.n ∧ x.s.size ≤ 1000000
theorem encV_length {x : Val} (h : OkV x) : (encV x).length ≤ 1000020 := by
  obtain ⟨h1, h2, h3⟩ := h
  unfold encV
  rw [List.length_append]
  have := encI_length h1
  split
  · have := encI_length h2
    omega
  · split
    · unfold encBytes
      rw [List.length_append]
      have := encI_length (P64_len h3)
      have e : x.s.data.toList.length = x.s.size := rfl
      rw [e]
      omega
    · simp; omega

/-- A box made before an append-like call stands behind it. -/
theorem box_kept {w w1 : World} {v v1 : Value} {o : Obj} (hg : Grew (w.alloc o) v w1 v1) (hv : ∀ g, v.ownBlock = some g → g < w.heap.size) : w1.heap[w.heap.size]? = some o := by
  rw [hg.1.block _ (by simp) (fun e => by have := hv _ e.symm; omega)]
  exact heap_alloc_new w o

set_option maxHeartbeats 400000 in
theorem wValue_c (v : Value) (x : Val) (base : Nat) (l : List UInt8) (w : World) (hx : OkV x) (hb : base ≤ w.heap.size) (hv : Own 5 U8 w base v l) (hl : l.length ≤ 400000000) :
    Calls Try.prog 36 #[v, .agg #[.int .i64 x.kind, .int .i64 x.n, .string x.s]] w (RetApp base w v (l ++ encV x)) := by
  obtain ⟨kind, n, s⟩ := x
  obtain ⟨hk, hn, hs⟩ := hx
  dsimp only at hk hn hs ⊢
  have HK := hide hk
  have HN := hide hn
  have HS := hide hs
  have hE0 : Ext w (w.alloc (.cells #[.int .i64 kind, .int .i64 n, .string s] 34)) := (Ext.refl w).alloc _
  have HL1 := hide (encI_length hk)
  have hv1 := hide (hv.alloc (.cells #[.int .i64 kind, .int .i64 n, .string s] 34))
  clear hk hn hs
  by_cases h1 : kind = 1
  · have hb1 : (kind == 1) = true := by simp [h1]
    have HEV : Hid (encV ⟨kind, n, s⟩ = encI kind ++ encI n) := by show _ = _; simp [encV, h1]
    clear h1
    go_enter Try.func36, Try.ntmps36
    go_wp2_with fail
    refine (wInt_c v kind base l _ HK.out (by simp; omega) hv1.out (by omega)).mono ?_
    rintro e w1 ⟨v1, rfl, hown1, hg1⟩
    have hbx := box_kept hg1 (fun g hg => (hv.lt g hg).2)
    have c0 : w1.cell? ⟨w.heap.size, 0, none⟩ = some (.int .i64 kind) := cell_of_row w1 _ 0 _ _ (0, 0) hbx
    have c1 : w1.cell? ⟨w.heap.size, 1, none⟩ = some (.int .i64 n) := cell_of_row w1 _ 1 _ _ (0, 0) hbx
    have HG := hide (Grew.of_ext hE0 hg1)
    have HO := hide hown1
    have HL2 := hide (show (l ++ encI kind).length ≤ 500000000 by rw [List.length_append]; have := HL1.out; omega)
    clear hbx hown1 hg1 hv hE0 hv1
    go_wp2_with (go_at_call 11; refine (wInt_c v1 n base _ _ HN.out (Nat.le_trans hb HG.out.1.size) HO.out HL2.out).mono ?_; rintro e w2 ⟨v2, rfl, hown2, hg2⟩)
    go_ret
    exact ⟨v2, rfl, by rw [HEV.out, ← List.append_assoc]; exact hown2, HG.out.trans hg2⟩
  · have hb1 : (kind == 1) = false := by simp [h1]
    by_cases h2 : kind = 2
    · have hb2 : (kind == 2) = true := by simp [h2]
      have HEV : Hid (encV ⟨kind, n, s⟩ = encI kind ++ encBytes s.data.toList) := by show _ = _; simp [encV, h2]
      clear h1 h2
      go_enter Try.func36, Try.ntmps36
      go_wp2_with fail
      refine (wInt_c v kind base l _ HK.out (by simp; omega) hv1.out (by omega)).mono ?_
      rintro e w1 ⟨v1, rfl, hown1, hg1⟩
      have hbx := box_kept hg1 (fun g hg => (hv.lt g hg).2)
      have c0 : w1.cell? ⟨w.heap.size, 0, none⟩ = some (.int .i64 kind) := cell_of_row w1 _ 0 _ _ (0, 0) hbx
      have c2 : w1.cell? ⟨w.heap.size, 2, none⟩ = some (.string s) := cell_of_row w1 _ 2 _ _ (0, 0) hbx
      have HG := hide (Grew.of_ext hE0 hg1)
      have HO := hide hown1
      have HL2 := hide (show (l ++ encI kind).length ≤ 500000000 by rw [List.length_append]; have := HL1.out; omega)
      clear hbx hown1 hg1 hv hE0 hv1
      go_wp2_with (go_at_call 12; refine (wText_c v1 s base _ _ HS.out (Nat.le_trans hb HG.out.1.size) HO.out HL2.out).mono ?_; rintro e w2 ⟨v2, rfl, hown2, hg2⟩)
      go_ret
      exact ⟨v2, rfl, by rw [HEV.out, ← List.append_assoc]; exact hown2, HG.out.trans hg2⟩
    · have hb2 : (kind == 2) = false := by simp [h2]
      have HEV : Hid (encV ⟨kind, n, s⟩ = encI kind) := by show _ = _; simp [encV, h1, h2]
      clear h1 h2
      go_enter Try.func36, Try.ntmps36
      go_wp2_with fail
      refine (wInt_c v kind base l _ HK.out (by simp; omega) hv1.out (by omega)).mono ?_
      rintro e w1 ⟨v1, rfl, hown1, hg1⟩
      have hbx := box_kept hg1 (fun g hg => (hv.lt g hg).2)
      have c0 : w1.cell? ⟨w.heap.size, 0, none⟩ = some (.int .i64 kind) := cell_of_row w1 _ 0 _ _ (0, 0) hbx
      have HG := hide (Grew.of_ext hE0 hg1)
      have HO := hide hown1
      clear hbx hown1 hg1 hv hE0 hv1
      go_wp2
      go_ret
      exact ⟨v1, rfl, by rw [HEV.out]; exact HO.out, HG.out⟩

/-- A slice of values. -/
def RdVals (w : World) (A : Option Addr) (l : List Val) : Prop := Reads w 3 A l.length (l.flatMap VCells)
theorem RdVals.at_ {w : World} {A : Option Addr} {l : List Val} (h : RdVals w A l) {k : Nat} (hk : k < l.length) :
    ∃ b o x, A = some ⟨b, o, none⟩ ∧ l.drop k = x :: l.drop (k + 1) ∧ l[k]? = some x ∧ b < w.heap.size ∧
      w.cell? ⟨b, o + k * 3, none⟩ = some (.int .i64 x.kind) ∧ w.cell? ⟨b, o + k * 3 + 1, none⟩ = some (.int .i64 x.n) ∧ w.cell? ⟨b, o + k * 3 + 2, none⟩ = some (.string x.s) := by
  obtain ⟨⟨b, o, sp⟩, e, hb, hc⟩ := h.2 (by omega)
  have hat : ∀ (m : List Val) (k : Nat) (x : Val) (j : Nat), m[k]? = some x → j < 3 → (m.flatMap VCells)[k * 3 + j]? = (VCells x)[j]? := by
    intro m
    induction m with
    | nil => intro k x j h; simp at h
    | cons y m ih =>
      intro k x j h hj
      cases k with
      | zero =>
        simp only [List.getElem?_cons_zero, Option.some.injEq] at h
        subst h
        rw [List.flatMap_cons, List.getElem?_append_left (by simp [VCells]; omega)]
        simp
      | succ k =>
        simp only [List.getElem?_cons_succ] at h
        rw [List.flatMap_cons, List.getElem?_append_right (by simp [VCells]; omega), ← ih k x j h hj]
        congr 1
        simp [VCells]
        omega
  have hx := List.getElem?_eq_getElem hk
  have c0 := hc _ _ ((hat l k _ 0 hx (by omega)).trans rfl)
  have c1 := hc _ _ ((hat l k _ 1 hx (by omega)).trans rfl)
  have c2 := hc _ _ ((hat l k _ 2 hx (by omega)).trans rfl)
  have hsp : sp = none := by
    have z := hc _ _ ((hat l 0 _ 0 (List.getElem?_eq_getElem (by omega)) (by omega)).trans rfl)
    have := World.cell?_spot z
    simpa [Addr.add] using this
  subst hsp
  simp only [Addr.add_lit, Nat.add_zero, ← Nat.add_assoc] at c0 c1 c2
  exact ⟨b, o, l[k], e, List.drop_eq_getElem_cons hk, hx, hb, c0, c1, c2⟩

theorem RdVals.grown {w w' : World} {A : Option Addr} {l : List Val} (h : RdVals w A l) {row : Option Nat} (hg : w.grownBy w' row) (hr : ∀ ad, A = some ad → row ≠ some ad.block) : RdVals w' A l := Reads.grown h hg hr
theorem RdVals.ext {w w' : World} {A : Option Addr} {l : List Val} (h : RdVals w A l) (hE : Ext w w') : RdVals w' A l := Reads.ext h hE

set_option maxHeartbeats 400000 in
theorem wValues_c (v : Value) (A : Option Addr) (c : Nat) (xs : List Val) (base : Nat) (l : List UInt8) (w : World) (hn : xs.length ≤ 100) (hp : ∀ x ∈ xs, OkV x) (hb : base ≤ w.heap.size) (hv : Own 5 U8 w base v l) (hl : l.length ≤ 200000000)
    (hx : RdVals w A xs) (hA : ∀ ad, A = some ad → v.ownBlock ≠ some ad.block) :
    Calls Try.prog 14 #[v, .slice A xs.length c] w (RetApp base w v (l ++ encVals xs)) := by
  have hp0 := hide (P64_len (Nat.le_trans hn (by omega)))
  have HP := hide hp
  have HA := hide hA
  have HEL := hide (encI_length hp0.out)
  have HPL : Hid (∀ k, ((xs.take k).flatMap encV).length ≤ 1000020 * xs.length) := fun k =>
    Nat.le_trans (flatMap_le encV 1000020 _ fun x hx => encV_length (hp x (List.mem_of_mem_take hx))) (Nat.mul_le_mul_left _ (List.length_take_le' _ _))
  clear hp hA
  go_enter Try.func14, Try.ntmps14
  go_wp2_with fail
  refine (wInt_c v _ base l w hp0.out hb hv (by omega)).mono ?_
  rintro e w1 ⟨v1, rfl, hown1, hg1⟩
  go_wp2
  go_loopw [0, 13] (fun v' i wr => ∃ k : Nat, k ≤ xs.length ∧ i = .int .i64 k ∧ Own 5 U8 wr base v' (l ++ encI xs.length ++ (xs.take k).flatMap encV) ∧ Grew w v wr v') (fun _ i _ => xs.length - (intOf i).toNat)
  case atStart => exact ⟨0, Nat.zero_le _, rfl, by simpa using hown1, hg1⟩
  case round =>
    clear hown1 hg1
    obtain ⟨k, hk, rfl, hown, hg⟩ := hrel
    by_cases hlt : k < xs.length
    · obtain ⟨b, o, x, rfl, -, e1, hbl, h1, h2, h3⟩ := (hx.grown hg.1 HA.out).at_ hlt
      have HX := hide (HP.out x (List.mem_of_getElem? e1))
      have HF := hide (flatMap_succ encV e1)
      have HL := hide (show (l ++ encI (xs.length : Int) ++ (xs.take k).flatMap encV).length ≤ 400000000 by
        have h1 := HPL.out k
        have h2 := HEL.out
        rw [List.length_append, List.length_append]; omega)
      clear e1 hx
      have HO := hide hown
      have HG := hide hg
      clear hown hg
      go_wp2_with fail
      refine (wValue_c u0 x base _ _ HX.out (Nat.le_trans hb (by simp; exact Nat.le_trans HG.out.1.size (by omega))) (HO.out.alloc _) HL.out).mono ?_
      rintro e w2 ⟨v2, rfl, hown2, hg2⟩
      have HG2 := hide (HG.out.trans (Grew.of_ext ((Ext.refl _).alloc _) hg2))
      clear hg2
      go_wp2
      go_roundw
      case rel => exact ⟨k + 1, by omega, by go_num, by rw [HF.out, ← List.append_assoc]; exact hown2, HG2.out⟩
      case measure => simp [intOf]; omega
    · have HO := hide hown
      clear hown
      go_wp2
      go_ret
      refine ⟨u0, rfl, ?_, hg⟩
      have h := HO.out
      rw [List.take_of_length_le (by omega)] at h
      rw [encVals, ← List.append_assoc]
      exact h

end Go.Proofs.Ytmiijlmjpaiinaa
