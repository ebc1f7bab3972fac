/- The walker: makes with room, arrays sliced, slices as arrays, arrays of bytes compared. Nothing of the program. -/
import Derived.Test.YtcfnmklbkhibgaaLL
import Derived.Laws.StructEq
import Derived.Laws.Cover3
namespace Go.Proofs.Ytcfnmklbkhibgaa
open Go.RowKit

section
variable {P : Program} {n : Nat} {o : Oper} {E : Env} {H : Heap} {K : Value → Heap → Prop} {x y : Operand} {t e T U yT : TypeId} {α : Type} {c : El α}
/-- A make of no elements, with room. -/
theorem stepMake0 {zv : Value} {bytes : Nat} {a b : Operand} (ho : o.op = .makeSlice t a b) (ht : P.underlying t = some (.slice e)) (hi : Elem P e zv c.sz bytes) (hb : bytes ≤ 4096) {m : Nat} {k : Int} (ha : ev n E a = .int .i64 0) (hb' : ev n E b = .int .i64 k)
    (hk' : k = (m : Int)) (hm : m ≤ 1073741824) (hk : ∀ g H', Ext H H' → H.size ≤ g → g < H'.size → Own c e H' H.size (.slice (some ⟨g, 0, none⟩) 0 m) [] → K (.slice (some ⟨g, 0, none⟩) 0 m) H') : Step P n o E H K := by
  intro w0 w hs hw
  subst hw
  obtain ⟨i, hi, hz, hsz, hby⟩ := info_parts hi
  have hbig : i.bytes * m ≤ 281474976710656 := by rw [hby]; exact Nat.le_trans (Nat.mul_le_mul hb hm) (by omega)
  subst hk'
  have hbi : (i.bytes : Int) * (m : Int) ≤ 281474976710656 := by
    have h : ((i.bytes * m : Nat) : Int) ≤ 281474976710656 := by omega
    rwa [Int.natCast_mul] at h
  have hrun := run_make (P := P) w t e i zv ht hi hz .i64 .i64 0 (m : Int) (by omega) (by omega) hbi (by omega)
  simp only [Int.toNat_natCast, hsz] at hrun
  have hex : (execOp (ev n E) o).run P w = .ok (.value (.slice (some ⟨w.heap.size, 0, none⟩) 0 m)) (w.alloc (.cells (madeCells zv.cells (m * c.sz)) e)) := by
    unfold execOp
    simp only [ho, ha, hb']
    simp [hrun]
  rw [hex]
  have hg : (w.heap.push (.cells (madeCells zv.cells (m * c.sz)) e (0, 0)))[w.heap.size]? = some (.cells (madeCells zv.cells (m * c.sz)) e (0, 0)) := by simp
  exact ⟨⟨hs.os, hs.tape, hs.output⟩, hk _ _ (Ext.push _ _) (Nat.le_refl _) (by show _ < (w.heap.push _).size; simp) ⟨by simp, .inr ⟨_, m, _, rfl, Nat.le_refl _, hg, Nat.zero_le _, by unfold maxLen; omega, size_madeCells _ _, by simp⟩⟩⟩
theorem yS2ap {m len cap : Nat} {A : Option Addr} (ho : o.op = .sliceToArrayPointer T x) (hT : P.underlying T = some (.array m e)) (hx : ev n E x = .slice A len cap) (h : m ≤ len) {q : Addr} (hq : A = some q) : Yld P n o E H (.pointer (some q)) := fun w _ => by
  subst hq
  unfold execOp
  simp only [ho, hx]
  simp [run_arrayAt w T e m (some q) len cap hT h]
theorem ySliceA {m s : Nat} {p : Addr} (ho : o.op = .slice T x none none none) (hT : P.underlying T = some (.array m e)) (hs : ∀ w, (sizeOf e).run P w = .ok s w) (hm : m ≠ 0) (hx : ev n E x = .pointer (some p)) : Yld P n o E H (.slice (some p) m m) := fun w _ => by
  have hb : (Instr.sliceBounds false m m none none none).run P w = .ok (0, m, m) w := by simp [Instr.sliceBounds]
  unfold execOp
  simp only [ho, hx]
  have e0 : p.add 0 = p := rfl
  simp [Instr.sliceAt, run_underlying hT, hb, hs, hm, Instr.sureAddr, e0]
end
/-- Arrays, compared. -/
def arrEq (d : Nat) (e : TypeId) (xs ys : Array Value) : List Nat → Sem Bool
  | [] => pure true
  | i :: l => do
    let a ← part e xs i
    let b ← part e ys i
    let r ← Op.equalIn d e a b
    if (!r) = true then pure false else arrEq d e xs ys l
theorem run_equalIn_array {P : Program} (w : World) (d : Nat) (t e : TypeId) (len m : Nat) (xs ys : Array Value) (ht : P.underlying t = some (.array len e)) (hs : ∀ w, (sizeOf e).run P w = .ok m w) :
    (Op.equalIn (d + 1) t (.agg xs) (.agg ys)).run P w = (arrEq d e xs ys ((List.range' 0 len).map (· * m))).run P w := by
  simp only [Op.equalIn, Sem.run_bind, run_underlying ht, hs, Result.andThen_ok, Std.Legacy.Range.forIn_eq_forIn_range']
  rw [show ([0:len] : Std.Legacy.Range).size = len from by simp [Std.Legacy.Range.size]]
  generalize List.range' 0 len = l
  clear ht
  induction l generalizing w with
  | nil => simp [arrEq]
  | cons i l ih =>
    simp only [List.forIn_cons, arrEq, Sem.run_bind, List.map_cons]
    generalize (part e xs (i * m)).run P w = r1
    cases r1 with
    | ok a w1 =>
      simp only [Result.andThen_ok]
      generalize (part e ys (i * m)).run P w1 = r2
      cases r2 with
      | ok b w2 =>
        simp only [Result.andThen_ok]
        generalize (Op.equalIn d e a b).run P w2 = r3
        cases r3 with
        | ok r w3 =>
          cases r
          · simp only [Result.andThen_ok, Bool.not_false, if_true, Sem.run_pure]
          · simp only [Result.andThen_ok, Bool.not_true, Bool.false_eq_true, if_false, Sem.run_pure]
            exact ih w3
        | halt x w3 => simp [Result.andThen]
      | halt x w2 => simp [Result.andThen]
    | halt x w1 => simp [Result.andThen]
theorem eByte_flat (a : List UInt8) : a.flatMap eByte.F = a.map fun b => Value.int .u8 (b.toNat : Int) := by
  induction a with
  | nil => rfl
  | cons x a ih => rw [List.flatMap_cons, ih]; rfl
theorem run_part_byte {P : Program} {e : TypeId} (he : P.underlying e = some (.int .u8)) (a : List UInt8) {k : Nat} (hk : k < a.length) (w : World) : (part e (a.flatMap eByte.F).toArray k).run P w = .ok (.int .u8 (a[k].toNat : Int)) w := by
  have hg : (a.flatMap eByte.F).toArray[k]? = some (.int .u8 (a[k].toNat : Int)) := by
    rw [List.getElem?_toArray, eByte_flat, List.getElem?_map, List.getElem?_eq_getElem hk]
    rfl
  simp only [part]
  simp [run_isAgg w he, aggD, hg]
theorem run_arrEq_bytes {P : Program} {e : TypeId} (d : Nat) (he : P.underlying e = some (.int .u8)) (a b : List UInt8) (hl : b.length = a.length) (w : World) : ∀ m k, k + m = a.length →
    (arrEq (d + 1) e (a.flatMap eByte.F).toArray (b.flatMap eByte.F).toArray ((List.range' k m).map (· * 1))).run P w = .ok (decide (a.drop k = b.drop k)) w
  | 0, k, hk => by
    rw [List.drop_of_length_le (by omega), List.drop_of_length_le (by omega)]
    simp [arrEq]
  | m + 1, k, hk => by
    have h1 : k < a.length := by omega
    have h2 : k < b.length := by omega
    rw [List.range'_succ, List.map_cons]
    simp only [arrEq, Sem.run_bind, Nat.mul_one, run_part_byte he a h1, run_part_byte he b h2, Result.andThen_ok, run_equalIn_int w d e .u8 .u8 _ _ he]
    have ih := run_arrEq_bytes d he a b hl w m (k + 1) (by omega)
    simp only [Nat.mul_one, List.map_id'] at ih ⊢
    have e1 : decide (a.drop k = b.drop k) = (decide (a[k] = b[k]) && decide (a.drop (k + 1) = b.drop (k + 1))) := by
      rw [List.drop_eq_getElem_cons h1, List.drop_eq_getElem_cons h2]
      simp only [List.cons.injEq, Bool.decide_and]
    rw [e1]
    by_cases h : a[k] = b[k]
    · rw [h]
      simp only [beq_self_eq_true, Bool.not_true, Bool.false_eq_true, if_false, decide_true, Bool.true_and]
      exact ih
    · have h' : ((a[k].toNat : Int) == (b[k].toNat : Int)) = false := by
        rw [beq_eq_false_iff_ne]
        exact fun e => h (UInt8.toNat.inj (by omega))
      rw [h', decide_eq_false h]
      simp
section
variable {P : Program} {n : Nat} {o : Oper} {E : Env} {H : Heap} {x y : Operand} {T yT e : TypeId}
theorem yNeqArr {len : Nat} {a b : List UInt8} (ho : o.op = .binOp .neq T x y yT) (hT : P.underlying T = some (.array len e)) (he : P.underlying e = some (.int .u8)) (hs : ∀ w, (sizeOf e).run P w = .ok 1 w) (hgt : P.eqGuardType P.depth T = false) (hx : ev n E x = .agg (a.flatMap eByte.F).toArray) (hy : ev n E y = .agg (b.flatMap eByte.F).toArray) (ha : a.length = len) (hb : b.length = len) :
    Yld P n o E H (.bool (!decide (a = b))) := fun w _ => by
  have hg : (eqGuard .neq T x y (.agg (a.flatMap eByte.F).toArray) (.agg (b.flatMap eByte.F).toArray)).run P w = .ok () w := run_eqGuard_agg w .neq T x y _ _ hgt
  have hq := run_neq_struct (P := P) w T (a.flatMap eByte.F).toArray (b.flatMap eByte.F).toArray
  rw [show (10000 : Nat) = 9999 + 1 from rfl, run_equalIn_array w 9999 T e len 1 _ _ hT hs, run_arrEq_bytes 9998 he a b (by omega) w len 0 (by omega)] at hq
  simp only [Result.andThen_ok, List.drop_zero] at hq
  unfold execOp
  simp only [ho, hx, hy]
  simp only [Sem.run_bind, hg, hq, Result.andThen_ok, Sem.run_pure]
end
section
variable {P : Program} {n : Nat} {o : Oper} {E : Env} {H : Heap} {x y : Operand} {T yT : TypeId} {a b c : Int} {k : IntKind}
theorem yMulK (ho : o.op = .binOp .mul T x y yT) (hx : ev n E x = .int k a) (hy : ev n E y = .int k b) (e : k.wrap (a * b) = c) : Yld P n o E H (.int k c) := yBin ho hx hy fun w => by
  subst e
  simp [binOp, Op.intArith]
end
end Go.Proofs.Ytcfnmklbkhibgaa
