/- Package wire: helpers of WireRoundTrip. -/
import Derived.Test.YtnccbnjjnijbhaaW13
namespace Go.Proofs.Ytnccbnjjnijbhaa
open Go.ChangeShapes Go.WideShapes Go.ChangeAt Go.RowKit Go.Deep

section
variable {P : Program} {n : Nat} {o : Oper} {E : Env} {H : Heap} {x y : Operand} {T yT : TypeId} {a b : Int} {k : IntKind}
set_option maxRecDepth 100000 in
theorem yRemT (ho : o.op = .binOp .rem T x y yT) (hx : ev n E x = .int k a) (hy : ev n E y = .int k b) (h : b ≠ 0) : Yld P n o E H (.int k (a.tmod b)) := yBin ho hx hy fun w => by
  simp [binOp, Op.intDiv, h]
end
set_option maxRecDepth 100000 in
theorem PP.ok {α : Type} {p : List UInt8 → Option (α × List UInt8)} {V : Heap → α → Value → Prop} {Z : Value} {g : Nat} {B : Option Addr} {cB : Nat} {D : List UInt8} {k : Nat} {H : Heap} {v : Value} {H' : Heap} {a : α} {r : List UInt8} (h : PP p V Z g B cB D k false H v H') (hp : p (D.drop k) = some (a, r)) :
    Keep [g] H H' ∧ ∃ k', D.drop k' = r ∧ Rdr H' g B cB D k' false ∧ V H' a v := by
  obtain ⟨hK, ⟨a', k', h1, h2, h3⟩ | ⟨h1, _⟩⟩ := h
  · rw [prs_f, hp] at h1
    simp only [Option.some.injEq, Prod.mk.injEq] at h1
    obtain ⟨rfl, rfl⟩ := h1
    exact ⟨hK, k', rfl, h2, h3⟩
  · rw [prs_f, hp] at h1
    cases h1
set_option maxRecDepth 100000 in
theorem pN_enc {α : Type} {p : List UInt8 → Option (α × List UInt8)} {e : α → List UInt8} (r : List UInt8) : ∀ l : List α, (∀ x ∈ l, ∀ r, p (e x ++ r) = some (x, r)) → pN p l.length (l.flatMap e ++ r) = some (l, r)
  | [], _ => rfl
  | x :: l, h => by
    simp only [List.length_cons, pN, List.flatMap_cons, List.append_assoc]
    rw [h x List.mem_cons_self]
    simp only [Option.bind_some]
    rw [pN_enc r l fun y hy => h y (List.mem_cons_of_mem _ hy)]
    rfl
set_option maxRecDepth 100000 in
theorem pList_enc {α : Type} {p : List UInt8 → Option (α × List UInt8)} {e : α → List UInt8} {m : Int} {l : List α} (hm : (l.length : Int) ≤ m) (hl : l.length ≤ 1000000) (h : ∀ x ∈ l, ∀ r, p (e x ++ r) = some (x, r)) (r : List UInt8) : pList p m (encI l.length ++ l.flatMap e ++ r) = some (l, r) := by
  unfold pList
  rw [List.append_assoc, pBnd_enc (P64_len hl) ⟨by omega, hm⟩]
  exact pN_enc r l h
/-- A number and whether it is even; a text, twice. -/
def encNB (n : Int) : List UInt8 := encI n ++ encB (decide (n.tmod 2 = 0))
def encTT (s : ByteArray) : List UInt8 := encBytes s.data.toList ++ encBytes s.data.toList
def fewT (l : List ByteArray) : Prop := (∀ y ∈ l, y.size ≤ 200) ∧ l.length ≤ 40
instance (l : List ByteArray) : Decidable (fewT l) := inferInstanceAs (Decidable (_ ∧ _))
set_option maxRecDepth 100000 in
theorem fewTexts_c (A : Option Addr) (ca : Nat) (l : List ByteArray) (H : Heap) (hA : Rd eStr H A l) (hlen : l.length ≤ 9223372036854775807) :
    CallsH Try.prog 16 [.slice A l.length ca] H fun v H' => v = .bool (decide (fewT l)) ∧ H' = H := by
  refine callsH_of Try.func16 rfl Try.ntmps16 (Nat.le_of_ble_eq_true rfl) ?_
  refine wpSeq fun F1 hF1 => ?_
  refine wpRegion ?_
  refine seqQ rfl rfl (yAssign (v := .bool _) rfl rfl) ?_
  refine seqNil ?_
  refine hF1 _ _ ?_; clear hF1
  refine wpSeq fun F2 hF2 => ?_
  refine wpSeq fun F3 hF3 => ?_
  refine wpRegion ?_
  refine seqQ rfl rfl (yAssign (v := .int _ _) rfl rfl) ?_
  refine seqNil ?_
  refine hF3 _ _ ?_; clear hF3
  -- loop
  refine wpBlock ?_
  refine wpLoopS [2, 3, 4, 5, 6, 7, 8, 9, 10, 11, 12, 13, 14, 15] (fun k : Nat => [(3, .int .i64 k)]) (fun k H' => H' = H ∧ k ≤ l.length ∧ ∀ y ∈ l.take k, y.size ≤ 200) (fun k => l.length - k) 0 ⟨rfl, trivial⟩ ⟨rfl, Nat.zero_le _, by simp⟩ ?_
  rintro k J Hk ⟨rfl, hk, hall⟩
  refine wpSeq fun F4 hF4 => ?_
  refine wpSeq fun F5 hF5 => ?_
  refine wpRegion ?_
  refine seqQ rfl rfl (yMove (v := .int _ _) rfl rfl) ?_
  refine seqQ rfl rfl (yMove (v := .slice _ _ _) rfl rfl) ?_
  refine seqQ rfl rfl (yLen rfl Try.underlying39 rfl) ?_
  refine seqQ rfl rfl (yLss rfl rfl rfl) ?_
  refine seqNil ?_
  refine hF5 _ _ ?_; clear hF5
  -- if t7
  refine wpIf rfl (fun hlt => ?_) (fun hlt => ?_)
  · skip
    have hk : k < l.length := by omega
    obtain ⟨p, rfl, hp⟩ := hA.at1 hk
    refine wpSkip ?_
    refine hF4 _ _ ?_; clear hF4
    refine wpSeq fun F6 hF6 => ?_
    refine wpBlock ?_
    refine wpSeq fun F7 hF7 => ?_
    refine wpRegion ?_
    refine seqQ rfl rfl (yMove (v := .slice _ _ _) rfl rfl) ?_
    refine seqQ rfl rfl (yMove (v := .int _ _) rfl rfl) ?_
    refine seqQ rfl rfl (yIdx1 rfl Try.underlying39 Try.sizeOf9 rfl rfl rfl hk) ?_
    refine seqQ rfl rfl (yLoad rfl Try.underlying9 rfl rfl hp) ?_
    refine seqQ rfl rfl (yLenS rfl Try.underlying9 rfl) ?_
    refine seqQ rfl rfl (yGtr rfl rfl rfl) ?_
    refine seqNil ?_
    refine hF7 _ _ ?_; clear hF7
    -- if t15
    refine wpIf rfl (fun hgt => ?_) (fun hgt => ?_)
    · skip
      refine wpSeq fun F8 hF8 => ?_
      refine wpRegion ?_
      refine seqQ rfl rfl (yAssign (v := .bool _) rfl rfl) ?_
      refine seqNil ?_
      refine hF8 _ _ ?_; clear hF8
      -- ret
      refine wpRet (fin1 (v := .bool _) rfl rfl ?_)
      refine ⟨?_, rfl⟩
      rw [decide_eq_false]
      rintro ⟨h1, -⟩
      have := h1 l[k] (List.getElem_mem hk)
      omega
    · skip
      refine wpSkip ?_
      refine hF6 _ _ ?_; clear hF6
      refine wpRegion ?_
      refine seqQ rfl rfl (yMove (v := .int _ _) rfl rfl) ?_
      refine seqQ rfl rfl (yAdd rfl rfl rfl (by unfold In64; omega)) ?_
      refine seqQ rfl rfl (yAssign (v := .int _ _) rfl rfl) ?_
      refine seqNil ?_
      -- end loop
      exact loopEnd (k + 1) (by repeat (first | (with_reducible exact Agree.refl _ _) | refine Agree.upd ?_ rfl | refine Agree.over ?_ rfl)) (by omega) ⟨rfl, trivial⟩ ⟨rfl, hk, fun y hy => by
        rw [List.take_succ_eq_append_getElem hk, List.mem_append, List.mem_singleton] at hy
        rcases hy with hy | rfl
        · exact hall y hy
        · omega⟩
  · skip
    have ek : k = l.length := by omega
    subst ek
    rw [List.take_length] at hall
    refine wpExit ?_
    refine hF2 _ _ ?_; clear hF2
    refine wpSeq fun F9 hF9 => ?_
    refine wpRegion ?_
    refine seqQ rfl rfl (yMove (v := .slice _ _ _) rfl rfl) ?_
    refine seqQ rfl rfl (yLen rfl Try.underlying39 rfl) ?_
    refine seqQ rfl rfl (yLeq rfl rfl rfl) ?_
    refine seqQ rfl rfl (yAssign (v := .bool _) rfl rfl) ?_
    refine seqNil ?_
    refine hF9 _ _ ?_; clear hF9
    -- ret
    refine wpRet (fin1 (v := .bool _) rfl rfl ?_)
    refine ⟨?_, rfl⟩
    congr 1
    apply decide_eq_decide.2
    unfold fewT
    constructor
    · intro h
      exact ⟨hall, by omega⟩
    · rintro ⟨-, h⟩
      omega
set_option maxRecDepth 100000 in
theorem sameI_c (A B : Option Addr) (ca cb : Nat) (a b : List Int) (H : Heap) (hA : Rd eInt H A a) (hB : Rd eInt H B b) (ha : a.length ≤ 1000000000) :
    CallsH Try.prog 22 [.slice A a.length ca, .slice B b.length cb] H fun v H' => v = .bool (decide (a = b)) ∧ H' = H := by
  refine callsH_of Try.func22 rfl Try.ntmps22 (Nat.le_of_ble_eq_true rfl) ?_
  refine wpSeq fun F1 hF1 => ?_
  refine wpRegion ?_
  refine seqQ rfl rfl (yAssign (v := .bool _) rfl rfl) ?_
  refine seqNil ?_
  refine hF1 _ _ ?_; clear hF1
  refine wpSeq fun F2 hF2 => ?_
  refine wpSeq fun F3 hF3 => ?_
  refine wpRegion ?_
  refine seqQ rfl rfl (yMove (v := .slice _ _ _) rfl rfl) ?_
  refine seqQ rfl rfl (yLen rfl Try.underlying38 rfl) ?_
  refine seqQ rfl rfl (yMove (v := .slice _ _ _) rfl rfl) ?_
  refine seqQ rfl rfl (yLen rfl Try.underlying38 rfl) ?_
  refine seqQ rfl rfl (yNeq rfl rfl rfl) ?_
  refine seqNil ?_
  refine hF3 _ _ ?_; clear hF3
  -- if t10
  refine wpCond rfl (fun hl => ?_) (fun hl => ?_)
  · skip
    refine wpSeq fun F4 hF4 => ?_
    refine wpRegion ?_
    refine seqQ rfl rfl (yAssign (v := .bool _) rfl rfl) ?_
    refine seqNil ?_
    refine hF4 _ _ ?_; clear hF4
    -- ret
    refine wpRet (fin1 (v := .bool _) rfl rfl ?_)
    have hl : a.length ≠ b.length := by simp at hl; omega
    exact ⟨by rw [decide_eq_false (fun e => hl (by rw [e]))], rfl⟩
  · skip
    have hl : a.length = b.length := by simp at hl; omega
    refine wpSkip ?_
    refine hF2 _ _ ?_; clear hF2
    refine wpSeq fun F5 hF5 => ?_
    refine wpSeq fun F6 hF6 => ?_
    refine wpRegion ?_
    refine seqQ rfl rfl (yAssign (v := .int _ _) rfl rfl) ?_
    refine seqNil ?_
    refine hF6 _ _ ?_; clear hF6
    -- loop
    refine wpBlock ?_
    refine wpLoopS [4, 5, 11, 12, 13, 14, 15, 16, 17, 18, 19, 20, 21, 22, 23, 24, 25] (fun k : Nat => [(5, .int .i64 k)]) (fun k H' => k ≤ a.length ∧ a.take k = b.take k ∧ H' = H) (fun k => a.length - k) 0 ⟨rfl, trivial⟩ ⟨Nat.zero_le _, rfl, rfl⟩ ?_
    rintro k J H' ⟨hk, he, rfl⟩
    refine wpSeq fun F7 hF7 => ?_
    refine wpSeq fun F8 hF8 => ?_
    refine wpRegion ?_
    refine seqQ rfl rfl (yMove (v := .int _ _) rfl rfl) ?_
    refine seqQ rfl rfl (yMove (v := .slice _ _ _) rfl rfl) ?_
    refine seqQ rfl rfl (yLen rfl Try.underlying38 rfl) ?_
    refine seqQ rfl rfl (yLss rfl rfl rfl) ?_
    refine seqNil ?_
    refine hF8 _ _ ?_; clear hF8
    -- if t14
    refine wpIf rfl (fun hlt => ?_) (fun hlt => ?_)
    · skip
      have hka : k < a.length := by omega
      have hkb : k < b.length := by omega
      obtain ⟨p, rfl, hp⟩ := hA.at1 hka
      obtain ⟨q, rfl, hq⟩ := hB.at1 hkb
      refine wpSkip ?_
      refine hF7 _ _ ?_; clear hF7
      refine wpSeq fun F9 hF9 => ?_
      refine wpBlock ?_
      refine wpSeq fun F10 hF10 => ?_
      refine wpRegionD Try_mixed [.q, .q, .q, .q, .q, .q, .q, .q, .q] 8 [0, 0, 3, 7, 0, 0, 48, 112, 255] [] (by kernel_rfl) _ rfl [0, 1, 2, 3, 4, 5, 6, 7] rfl (by simp) ?_
      refine lexQ rfl rfl rfl rfl (fun H hM => (yMove (v := .slice _ _ _) rfl rfl)) ?_
      refine lexQ rfl rfl rfl rfl (fun H hM => (yMove (v := .int _ _) rfl rfl)) ?_
      refine lexQ rfl rfl rfl rfl (fun H hM => (yIdx1 rfl Try.underlying38 Try.sizeOf3 rfl rfl rfl (by omega))) ?_
      refine lexQ rfl rfl rfl rfl (fun H hM => (yLoad rfl Try.underlying3 rfl rfl (hM.ext.cell hp))) ?_
      refine lexQ rfl rfl rfl rfl (fun H hM => (yMove (v := .slice _ _ _) rfl rfl)) ?_
      refine lexQ rfl rfl rfl rfl (fun H hM => (yMove (v := .int _ _) rfl rfl)) ?_
      refine lexQ rfl rfl rfl rfl (fun H hM => (yIdx1 rfl Try.underlying38 Try.sizeOf3 rfl rfl rfl (by omega))) ?_
      refine lexQ rfl rfl rfl rfl (fun H hM => (yLoad rfl Try.underlying3 rfl rfl (hM.ext.cell hq))) ?_
      -- tail
      refine lexNil0 rfl (fun hM => ?_)
      refine seqQ rfl rfl (yNeq rfl rfl rfl) ?_
      refine seqNil ?_
      refine hF10 _ _ ?_; clear hF10
      -- if t25
      refine wpCond rfl (fun hn => ?_) (fun hn => ?_)
      · skip
        have hn : a[k] ≠ b[k] := by simpa using hn
        refine wpSeq fun F11 hF11 => ?_
        refine wpRegion ?_
        refine seqQ rfl rfl (yAssign (v := .bool _) rfl rfl) ?_
        refine seqNil ?_
        refine hF11 _ _ ?_; clear hF11
        -- ret
        refine wpRet (fin1 (v := .bool _) rfl rfl ?_)
        exact ⟨by rw [decide_eq_false (fun e => hn (by simp [e]))], rfl⟩
      · skip
        have hn : a[k] = b[k] := by simpa using hn
        refine wpSkip ?_
        refine hF9 _ _ ?_; clear hF9
        refine wpRegion ?_
        refine seqQ rfl rfl (yMove (v := .int _ _) rfl rfl) ?_
        refine seqQ rfl rfl (yAdd rfl rfl rfl (by unfold In64; omega)) ?_
        refine seqQ rfl rfl (yAssign (v := .int _ _) rfl rfl) ?_
        refine seqNil ?_
        -- end loop
        exact loopEnd (k + 1) (by repeat (first | (with_reducible exact Agree.refl _ _) | refine Agree.upd ?_ rfl | refine Agree.over ?_ rfl)) (by omega) ⟨rfl, trivial⟩ ⟨hka, by rw [List.take_succ_eq_append_getElem hka, List.take_succ_eq_append_getElem hkb, he, hn], rfl⟩
    · skip
      obtain rfl : k = a.length := by omega
      refine wpExit ?_
      refine hF5 _ _ ?_; clear hF5
      refine wpSeq fun F12 hF12 => ?_
      refine wpRegion ?_
      refine seqQ rfl rfl (yAssign (v := .bool _) rfl rfl) ?_
      refine seqNil ?_
      refine hF12 _ _ ?_; clear hF12
      -- ret
      refine wpRet (fin1 (v := .bool _) rfl rfl ?_)
      rw [List.take_length, hl, List.take_length] at he
      exact ⟨by rw [decide_eq_true he], rfl⟩
end Go.Proofs.Ytnccbnjjnijbhaa
