/- Package wire: Event of a reader; the laws' helpers. -/
import Derived.Test.YtcfnmklbkhibgaaW8
import Derived.Laws.StructEq
namespace Go.Proofs.Ytcfnmklbkhibgaa
open Go.RowKit

set_option maxRecDepth 100000 in
theorem VE.keep {b0 g : Nat} {H H' : Heap} {x : Evt} {v : Value} (h : VE b0 H x v) (hK : Keep [g] H H') (hg : g < b0 ∨ H.size ≤ g) : VE b0 H' x v := by
  obtain ⟨⟨A, c, rfl, ho⟩, hok⟩ := h
  refine ⟨⟨A, c, rfl, ho.keep hK fun b hb => ?_⟩, hok⟩
  have := ho.lt b hb
  simp
  omega
set_option maxRecDepth 100000 in
theorem VE.mono {b0 b1 : Nat} {H : Heap} {x : Evt} {v : Value} (h : VE b0 H x v) (hb : b1 ≤ b0) : VE b1 H x v := by
  obtain ⟨⟨A, c, rfl, ho⟩, hok⟩ := h
  exact ⟨⟨A, c, rfl, ho.mono hb⟩, hok⟩
set_option maxRecDepth 100000 in
theorem VE.ext {b0 : Nat} {H H' : Heap} {x : Evt} {v : Value} (h : VE b0 H x v) (hx : Ext H H') : VE b0 H' x v := by
  obtain ⟨⟨A, c, rfl, ho⟩, hok⟩ := h
  exact ⟨⟨A, c, rfl, ho.ext hx⟩, hok⟩
set_option maxRecDepth 100000 in
theorem VE.keep2 {b0 g : Nat} {H1 H7 H8 : Heap} {x : Evt} {v : Value} (h : VE b0 H1 x v) (hx : Ext H1 H7) (hK : Keep [g] H7 H8) (hg : H1.size ≤ g) : VE b0 H8 x v := by
  obtain ⟨⟨A, c, rfl, ho⟩, hok⟩ := h
  refine ⟨⟨A, c, rfl, (ho.ext hx).keep hK fun b hb => ?_⟩, hok⟩
  have := ho.lt b hb
  simp
  omega
set_option maxRecDepth 100000 in
theorem VE.shape {b0 : Nat} {H : Heap} {x : Evt} {v : Value} (h : VE b0 H x v) : ∃ (na np nl : Int) (ns : Bool) (A : Option Addr) (n c : Nat), v = .agg [.int .i64 na, .bool ns, .int .i64 np, .int .i64 nl, .slice A n c].toArray := by
  obtain ⟨⟨A, c, rfl, _⟩, _⟩ := h
  exact ⟨_, _, _, _, _, _, _, rfl⟩
def ev0 : Evt := ⟨0, false, 0, 0, []⟩
end Go.Proofs.Ytcfnmklbkhibgaa
