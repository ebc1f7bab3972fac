/- Package wire: the laws' helpers. -/
import Derived.Test.YtcfnmklbkhibgaaW9
namespace Go.Proofs.Ytcfnmklbkhibgaa
open Go.RowKit

set_option maxRecDepth 100000 in
theorem bytesEq (x y : List UInt8) : decide ((⟨x.toArray⟩ : ByteArray) = ⟨y.toArray⟩) = decide (x = y) := by
  apply decide_eq_decide.2
  constructor
  · intro h
    have := congrArg (fun b : ByteArray => b.data.toList) h
    simpa using this
  · rintro rfl
    rfl
section
variable {P : Program} {n : Nat} {o : Oper} {E : Env} {H : Heap} {x y : Operand} {T yT e : TypeId} {p : Addr}
set_option maxRecDepth 100000 in
theorem yNeqPN (ho : o.op = .binOp .neq T x y yT) (hT : P.underlying T = some (.pointer e)) (hx : ev n E x = .pointer (some p)) (hy : ev n E y = .pointer none) : Yld P n o E H (.bool true) := fun w _ => by
  have hg : (eqGuard .neq T x y (.pointer (some p)) (.pointer none)).run P w = .ok () w := by simp [eqGuard]
  have he : (Op.equal T (.pointer (some p)) (.pointer none)).run P w = .ok false w := by
    have h : ∀ d : Nat, (Op.equalIn (d + 1) T (.pointer (some p)) (.pointer none)).run P w = .ok false w := fun d => by simp [Op.equalIn, run_underlying hT]
    simp only [Op.equal, Op.maxDepth]
    exact h 9999
  have hb : (binOp .neq T (.pointer (some p)) (.pointer none)).run P w = .ok (.bool true) w := by simp only [binOp]; simp [he]
  unfold execOp
  simp only [ho, hx, hy]
  simp [hg, hb]
end
set_option maxRecDepth 100000 in
theorem Rdr.other {H H' : Heap} {g g' : Nat} {B : Option Addr} {cB : Nat} {D : List UInt8} {k : Nat} {f : Bool} (h : Rdr H g B cB D k f) (hK : Keep [g'] H H') (hg : g ≠ g') (hB : ∀ p, B = some p → D ≠ [] → p.block ≠ g') : Rdr H' g B cB D k f :=
  ⟨h.blk.keep hK (by simpa using hg), fun hn => by
    obtain ⟨p, e, hm, hc⟩ := h.rd hn
    exact ⟨p, e, hm, fun j u hu => hK.cell (hc j u hu) (by rw [block_of_add]; simpa using hB p e hn)⟩, h.le, h.cap, h.few⟩
set_option maxRecDepth 100000 in
theorem Rdr.blt {H : Heap} {g : Nat} {B : Option Addr} {cB : Nat} {D : List UInt8} {k : Nat} {f : Bool} (h : Rdr H g B cB D k f) : ∀ p, B = some p → D ≠ [] → p.block < H.size := fun p e hn => by
  obtain ⟨q, eq, hq⟩ := h.rd.rd.lt (List.length_pos_iff.2 hn)
  rw [e] at eq
  obtain rfl := Option.some.inj eq
  exact hq
end Go.Proofs.Ytcfnmklbkhibgaa
