/- Package wire: the reader: what its users call. -/
import Derived.Test.YtcfnmklbkhibgaaW7
namespace Go.Proofs.Ytcfnmklbkhibgaa
open Go.RowKit

section
variable {P : Program} {n : Nat} {o : Oper} {E : Env} {H : Heap} {x y : Operand} {T yT e : TypeId} {p : Addr}
set_option maxRecDepth 100000 in
theorem yEqlPN (ho : o.op = .binOp .eql T x y yT) (hT : P.underlying T = some (.pointer e)) (hx : ev n E x = .pointer (some p)) (hy : ev n E y = .pointer none) : Yld P n o E H (.bool false) := fun w _ => by
  have hg : (eqGuard .eql T x y (.pointer (some p)) (.pointer none)).run P w = .ok () w := by simp [eqGuard]
  have he : (Op.equal T (.pointer (some p)) (.pointer none)).run P w = .ok false w := by
    have h : ∀ d : Nat, (Op.equalIn (d + 1) T (.pointer (some p)) (.pointer none)).run P w = .ok false w := fun d => by simp [Op.equalIn, run_underlying hT]
    simp only [Op.equal, Op.maxDepth]
    exact h 9999
  have hb : (binOp .eql T (.pointer (some p)) (.pointer none)).run P w = .ok (.bool false) w := by simp only [binOp]; simp [he]
  unfold execOp
  simp only [ho, hx, hy]
  simp [hg, hb]
end
/-- What a public method leaves: what is read, or the reader at its offset, failed, and a zero value. -/
def PP {α : Type} (p : List UInt8 → Option (α × List UInt8)) (V : Heap → α → Value → Prop) (Z : Value) (g : Nat) (B : Option Addr) (cB : Nat) (D : List UInt8) (k : Nat) (f : Bool) (H : Heap) (v : Value) (H' : Heap) : Prop :=
  Keep [g] H H' ∧ ((∃ a k', prs p f D k = some (a, D.drop k') ∧ Rdr H' g B cB D k' false ∧ V H' a v) ∨ (prs p f D k = none ∧ Rdr H' g B cB D k true ∧ v = Z))
set_option maxRecDepth 100000 in
theorem part_int {α : Type} {p : List UInt8 → Option (α × List UInt8)} {V : Heap → α → Value → Prop} {U : Heap → Value → Prop} (fid : FuncId) (first cap : List Value) (g : Nat) (B : Option Addr) (cB : Nat) (D : List UInt8) (k : Nat) (f : Bool) (H : Heap) (h : Rdr H g B cB D k f)
    (hf : ∀ (args : Array Value) (w : World), (callFunc fid args).run Try.prog w = .ok (.enter fid args) w) (hread : f = false → CallsH Try.prog fid (first ++ [] ++ cap) H fun v H' => RP p V U g B cB D k false H v H')
    (hV : ∀ H a v, V H a v → ∃ n, v = .int .i64 n) (hU : ∀ H v, U H v → ∃ n, v = .int .i64 n) :
    CallsH Try.prog 89 [.pointer (some ⟨g, 0, none⟩), .func (.func fid) first.toArray cap.toArray] H fun v H' => PP p V (.int .i64 0) g B cB D k f H v H' := by
  refine callsH_of Try.func89 rfl Try.ntmps89 (Nat.le_of_ble_eq_true rfl) ?_
  refine wpSeq fun F1 hF1 => ?_
  refine wpRegion ?_
  refine seqQ rfl rfl (yAssign (v := .int _ _) rfl rfl) ?_
  refine seqNil ?_
  refine hF1 _ _ ?_; clear hF1
  refine wpSeq fun F2 hF2 => ?_
  refine wpRegion ?_
  refine seqQ rfl rfl (yAssign (v := .int _ _) rfl rfl) ?_
  refine seqNil ?_
  refine hF2 _ _ ?_; clear hF2
  refine wpSeq fun F3 hF3 => ?_
  refine wpSeq fun F4 hF4 => ?_
  refine wpRegion ?_
  refine seqQ rfl rfl (yMove (v := .pointer _) rfl rfl) ?_
  refine seqQ rfl rfl (yEqlPN rfl Try.underlying110 rfl rfl) ?_
  refine seqQ rfl rfl (yMove (v := .bool false) rfl rfl) ?_
  refine seqQ rfl rfl (yMove (v := .pointer _) rfl rfl) ?_
  refine seqQ rfl rfl (yNilCheck rfl rfl) ?_
  refine seqQ rfl rfl (yFieldAddr rfl Try.underlying134 rfl Try.sizeOf4 rfl rfl) ?_
  refine seqQ rfl rfl (yLoad rfl Try.underlying4 rfl rfl (h.blk.cell rfl)) ?_
  refine seqQ rfl rfl (yPickF (v := .bool _) rfl rfl rfl) ?_
  refine seqNil ?_
  refine hF4 _ _ ?_; clear hF4
  -- if t15
  cases f
  · skip
    refine wpF rfl ?_
    refine wpSkip ?_
    refine hF3 _ _ ?_; clear hF3
    refine wpSeq fun F5 hF5 => ?_
    refine wpRegion ?_
    refine seqQ rfl rfl (yMove (v := .pointer _) rfl rfl) ?_
    refine seqQ rfl rfl (yNilCheck rfl rfl) ?_
    refine seqQ rfl rfl (yFieldAddr rfl Try.underlying134 rfl Try.sizeOf3 rfl rfl) ?_
    refine seqQ rfl rfl (yLoad rfl Try.underlying3 rfl rfl (h.blk.cell rfl)) ?_
    refine seqQ rfl rfl (yAssign (v := .int _ _) rfl rfl) ?_
    refine seqNil ?_
    refine hF5 _ _ ?_; clear hF5
    refine wpSeq fun F6 hF6 => ?_
    refine wpRegion ?_
    refine seqQ rfl rfl (yMove (v := .func _ _ _) rfl rfl) ?_
    -- e slot 22: callv t21 
    refine seqE rfl rfl (stepCallV (first := first) (cap := cap) rfl hf rfl rfl ?_)
    refine (hread rfl).mono ?_
    rintro v H1 hr
    obtain ⟨hK1, f1, k1, h1, hc1⟩ := hr.flat
    obtain ⟨n, rfl⟩ : ∃ n, v = .int .i64 n := by
      rcases hc1 with ⟨_, _, hu⟩ | ⟨_, a, _, hv⟩
      · exact hU _ _ hu
      · exact hV _ _ _ hv
    refine seqQ rfl rfl (yAssign (v := .int _ _) rfl rfl) ?_
    refine seqNil ?_
    refine hF6 _ _ ?_; clear hF6
    refine wpSeq fun F7 hF7 => ?_
    refine wpSeq fun F8 hF8 => ?_
    refine wpRegion ?_
    refine seqQ rfl rfl (yMove (v := .pointer _) rfl rfl) ?_
    refine seqQ rfl rfl (yNilCheck rfl rfl) ?_
    refine seqQ rfl rfl (yFieldAddr rfl Try.underlying134 rfl Try.sizeOf4 rfl rfl) ?_
    refine seqQ rfl rfl (yLoad rfl Try.underlying4 rfl rfl (h1.blk.cell rfl)) ?_
    refine seqNil ?_
    refine hF8 _ _ ?_; clear hF8
    -- if t26
    rcases hc1 with ⟨rfl, hp, hu⟩ | ⟨rfl, a, hp, hv⟩
    · skip
      refine wpT rfl ?_
      refine wpSeq fun F9 hF9 => ?_
      refine wpRegion ?_
      refine seqQ rfl rfl (yMove (v := .pointer _) rfl rfl) ?_
      refine seqQ rfl rfl (yMove (v := .int _ _) rfl rfl) ?_
      refine seqQ rfl rfl (yNilCheck rfl rfl) ?_
      refine seqQ rfl rfl (yFieldAddr rfl Try.underlying134 rfl Try.sizeOf3 rfl rfl) ?_
      -- e slot None: store T3 t30 t28
      refine seqE0 rfl rfl (stepStore rfl Try.sizeOf3 rfl rfl rfl rfl h1.blk (Nat.le_of_ble_eq_true rfl) ?_)
      intro H3 hB3 hK3
      refine seqNil ?_
      refine hF9 _ _ ?_; clear hF9
      refine wpSeq fun F10 hF10 => ?_
      refine wpRegion ?_
      refine seqQ rfl rfl (yMove (v := .int _ _) rfl rfl) ?_
      refine seqQ rfl rfl (yAssign (v := .int _ _) rfl rfl) ?_
      refine seqNil ?_
      refine hF10 _ _ ?_; clear hF10
      -- ret
      refine wpRet (fin1 (v := .int _ _) rfl rfl ?_)
      exact ⟨hK1.trans hK3, .inr ⟨hp, h1.store hB3 hK3 h.le, rfl⟩⟩
    · skip
      refine wpF rfl ?_
      refine wpSkip ?_
      refine hF7 _ _ ?_; clear hF7
      refine wpSeq fun F11 hF11 => ?_
      refine wpRegion ?_
      refine seqQ rfl rfl (yMove (v := .int _ _) rfl rfl) ?_
      refine seqQ rfl rfl (yAssign (v := .int _ _) rfl rfl) ?_
      refine seqNil ?_
      refine hF11 _ _ ?_; clear hF11
      -- ret
      refine wpRet (fin1 (v := .int _ _) rfl rfl ?_)
      exact ⟨hK1, .inl ⟨a, k1, hp, h1, hv⟩⟩
  · skip
    refine wpT rfl ?_
    refine wpSeq fun F12 hF12 => ?_
    refine wpRegion ?_
    refine seqQ rfl rfl (yMove (v := .int _ _) rfl rfl) ?_
    refine seqQ rfl rfl (yAssign (v := .int _ _) rfl rfl) ?_
    refine seqNil ?_
    refine hF12 _ _ ?_; clear hF12
    -- ret
    refine wpRet (fin1 (v := .int _ _) rfl rfl ?_)
    exact ⟨Keep.refl _ _, .inr ⟨rfl, h, rfl⟩⟩
set_option maxRecDepth 100000 in
theorem part_ints {α : Type} {p : List UInt8 → Option (α × List UInt8)} {V : Heap → α → Value → Prop} {U : Heap → Value → Prop} (fid : FuncId) (first cap : List Value) (g : Nat) (B : Option Addr) (cB : Nat) (D : List UInt8) (k : Nat) (f : Bool) (H : Heap) (h : Rdr H g B cB D k f)
    (hf : ∀ (args : Array Value) (w : World), (callFunc fid args).run Try.prog w = .ok (.enter fid args) w) (hread : f = false → CallsH Try.prog fid (first ++ [] ++ cap) H fun v H' => RP p V U g B cB D k false H v H')
    (hV : ∀ H a v, V H a v → ∃ A n c, v = .slice A n c) (hU : ∀ H v, U H v → ∃ A n c, v = .slice A n c) :
    CallsH Try.prog 95 [.pointer (some ⟨g, 0, none⟩), .func (.func fid) first.toArray cap.toArray] H fun v H' => PP p V (.slice none 0 0) g B cB D k f H v H' := by
  refine callsH_of Try.func95 rfl Try.ntmps95 (Nat.le_of_ble_eq_true rfl) ?_
  refine wpSeq fun F1 hF1 => ?_
  refine wpRegion ?_
  refine seqQ rfl rfl (yAssign (v := .slice _ _ _) rfl rfl) ?_
  refine seqNil ?_
  refine hF1 _ _ ?_; clear hF1
  refine wpSeq fun F2 hF2 => ?_
  refine wpRegion ?_
  refine seqQ rfl rfl (yAssign (v := .slice _ _ _) rfl rfl) ?_
  refine seqNil ?_
  refine hF2 _ _ ?_; clear hF2
  refine wpSeq fun F3 hF3 => ?_
  refine wpSeq fun F4 hF4 => ?_
  refine wpRegion ?_
  refine seqQ rfl rfl (yMove (v := .pointer _) rfl rfl) ?_
  refine seqQ rfl rfl (yEqlPN rfl Try.underlying110 rfl rfl) ?_
  refine seqQ rfl rfl (yMove (v := .bool false) rfl rfl) ?_
  refine seqQ rfl rfl (yMove (v := .pointer _) rfl rfl) ?_
  refine seqQ rfl rfl (yNilCheck rfl rfl) ?_
  refine seqQ rfl rfl (yFieldAddr rfl Try.underlying134 rfl Try.sizeOf4 rfl rfl) ?_
  refine seqQ rfl rfl (yLoad rfl Try.underlying4 rfl rfl (h.blk.cell rfl)) ?_
  refine seqQ rfl rfl (yPickF (v := .bool _) rfl rfl rfl) ?_
  refine seqNil ?_
  refine hF4 _ _ ?_; clear hF4
  -- if t15
  cases f
  · skip
    refine wpF rfl ?_
    refine wpSkip ?_
    refine hF3 _ _ ?_; clear hF3
    refine wpSeq fun F5 hF5 => ?_
    refine wpRegion ?_
    refine seqQ rfl rfl (yMove (v := .pointer _) rfl rfl) ?_
    refine seqQ rfl rfl (yNilCheck rfl rfl) ?_
    refine seqQ rfl rfl (yFieldAddr rfl Try.underlying134 rfl Try.sizeOf3 rfl rfl) ?_
    refine seqQ rfl rfl (yLoad rfl Try.underlying3 rfl rfl (h.blk.cell rfl)) ?_
    refine seqQ rfl rfl (yAssign (v := .int _ _) rfl rfl) ?_
    refine seqNil ?_
    refine hF5 _ _ ?_; clear hF5
    refine wpSeq fun F6 hF6 => ?_
    refine wpRegion ?_
    refine seqQ rfl rfl (yMove (v := .func _ _ _) rfl rfl) ?_
    -- e slot 22: callv t21 
    refine seqE rfl rfl (stepCallV (first := first) (cap := cap) rfl hf rfl rfl ?_)
    refine (hread rfl).mono ?_
    rintro v H1 hr
    obtain ⟨hK1, f1, k1, h1, hc1⟩ := hr.flat
    obtain ⟨A, n, c, rfl⟩ : ∃ A n c, v = .slice A n c := by
      rcases hc1 with ⟨_, _, hu⟩ | ⟨_, a, _, hv⟩
      · exact hU _ _ hu
      · exact hV _ _ _ hv
    refine seqQ rfl rfl (yAssign (v := .slice _ _ _) rfl rfl) ?_
    refine seqNil ?_
    refine hF6 _ _ ?_; clear hF6
    refine wpSeq fun F7 hF7 => ?_
    refine wpSeq fun F8 hF8 => ?_
    refine wpRegion ?_
    refine seqQ rfl rfl (yMove (v := .pointer _) rfl rfl) ?_
    refine seqQ rfl rfl (yNilCheck rfl rfl) ?_
    refine seqQ rfl rfl (yFieldAddr rfl Try.underlying134 rfl Try.sizeOf4 rfl rfl) ?_
    refine seqQ rfl rfl (yLoad rfl Try.underlying4 rfl rfl (h1.blk.cell rfl)) ?_
    refine seqNil ?_
    refine hF8 _ _ ?_; clear hF8
    -- if t26
    rcases hc1 with ⟨rfl, hp, hu⟩ | ⟨rfl, a, hp, hv⟩
    · skip
      refine wpT rfl ?_
      refine wpSeq fun F9 hF9 => ?_
      refine wpRegion ?_
      refine seqQ rfl rfl (yMove (v := .pointer _) rfl rfl) ?_
      refine seqQ rfl rfl (yMove (v := .int _ _) rfl rfl) ?_
      refine seqQ rfl rfl (yNilCheck rfl rfl) ?_
      refine seqQ rfl rfl (yFieldAddr rfl Try.underlying134 rfl Try.sizeOf3 rfl rfl) ?_
      -- e slot None: store T3 t30 t28
      refine seqE0 rfl rfl (stepStore rfl Try.sizeOf3 rfl rfl rfl rfl h1.blk (Nat.le_of_ble_eq_true rfl) ?_)
      intro H3 hB3 hK3
      refine seqNil ?_
      refine hF9 _ _ ?_; clear hF9
      refine wpSeq fun F10 hF10 => ?_
      refine wpRegion ?_
      refine seqQ rfl rfl (yMove (v := .slice _ _ _) rfl rfl) ?_
      refine seqQ rfl rfl (yAssign (v := .slice _ _ _) rfl rfl) ?_
      refine seqNil ?_
      refine hF10 _ _ ?_; clear hF10
      -- ret
      refine wpRet (fin1 (v := .slice _ _ _) rfl rfl ?_)
      exact ⟨hK1.trans hK3, .inr ⟨hp, h1.store hB3 hK3 h.le, rfl⟩⟩
    · skip
      refine wpF rfl ?_
      refine wpSkip ?_
      refine hF7 _ _ ?_; clear hF7
      refine wpSeq fun F11 hF11 => ?_
      refine wpRegion ?_
      refine seqQ rfl rfl (yMove (v := .slice _ _ _) rfl rfl) ?_
      refine seqQ rfl rfl (yAssign (v := .slice _ _ _) rfl rfl) ?_
      refine seqNil ?_
      refine hF11 _ _ ?_; clear hF11
      -- ret
      refine wpRet (fin1 (v := .slice _ _ _) rfl rfl ?_)
      exact ⟨hK1, .inl ⟨a, k1, hp, h1, hv⟩⟩
  · skip
    refine wpT rfl ?_
    refine wpSeq fun F12 hF12 => ?_
    refine wpRegion ?_
    refine seqQ rfl rfl (yMove (v := .slice _ _ _) rfl rfl) ?_
    refine seqQ rfl rfl (yAssign (v := .slice _ _ _) rfl rfl) ?_
    refine seqNil ?_
    refine hF12 _ _ ?_; clear hF12
    -- ret
    refine wpRet (fin1 (v := .slice _ _ _) rfl rfl ?_)
    exact ⟨Keep.refl _ _, .inr ⟨rfl, h, rfl⟩⟩
set_option maxRecDepth 100000 in
theorem part_vals {α : Type} {p : List UInt8 → Option (α × List UInt8)} {V : Heap → α → Value → Prop} {U : Heap → Value → Prop} (fid : FuncId) (first cap : List Value) (g : Nat) (B : Option Addr) (cB : Nat) (D : List UInt8) (k : Nat) (f : Bool) (H : Heap) (h : Rdr H g B cB D k f)
    (hf : ∀ (args : Array Value) (w : World), (callFunc fid args).run Try.prog w = .ok (.enter fid args) w) (hread : f = false → CallsH Try.prog fid (first ++ [] ++ cap) H fun v H' => RP p V U g B cB D k false H v H')
    (hV : ∀ H a v, V H a v → ∃ A n c, v = .slice A n c) (hU : ∀ H v, U H v → ∃ A n c, v = .slice A n c) :
    CallsH Try.prog 91 [.pointer (some ⟨g, 0, none⟩), .func (.func fid) first.toArray cap.toArray] H fun v H' => PP p V (.slice none 0 0) g B cB D k f H v H' := by
  refine callsH_of Try.func91 rfl Try.ntmps91 (Nat.le_of_ble_eq_true rfl) ?_
  refine wpSeq fun F1 hF1 => ?_
  refine wpRegion ?_
  refine seqQ rfl rfl (yAssign (v := .slice _ _ _) rfl rfl) ?_
  refine seqNil ?_
  refine hF1 _ _ ?_; clear hF1
  refine wpSeq fun F2 hF2 => ?_
  refine wpRegion ?_
  refine seqQ rfl rfl (yAssign (v := .slice _ _ _) rfl rfl) ?_
  refine seqNil ?_
  refine hF2 _ _ ?_; clear hF2
  refine wpSeq fun F3 hF3 => ?_
  refine wpSeq fun F4 hF4 => ?_
  refine wpRegion ?_
  refine seqQ rfl rfl (yMove (v := .pointer _) rfl rfl) ?_
  refine seqQ rfl rfl (yEqlPN rfl Try.underlying110 rfl rfl) ?_
  refine seqQ rfl rfl (yMove (v := .bool false) rfl rfl) ?_
  refine seqQ rfl rfl (yMove (v := .pointer _) rfl rfl) ?_
  refine seqQ rfl rfl (yNilCheck rfl rfl) ?_
  refine seqQ rfl rfl (yFieldAddr rfl Try.underlying134 rfl Try.sizeOf4 rfl rfl) ?_
  refine seqQ rfl rfl (yLoad rfl Try.underlying4 rfl rfl (h.blk.cell rfl)) ?_
  refine seqQ rfl rfl (yPickF (v := .bool _) rfl rfl rfl) ?_
  refine seqNil ?_
  refine hF4 _ _ ?_; clear hF4
  -- if t15
  cases f
  · skip
    refine wpF rfl ?_
    refine wpSkip ?_
    refine hF3 _ _ ?_; clear hF3
    refine wpSeq fun F5 hF5 => ?_
    refine wpRegion ?_
    refine seqQ rfl rfl (yMove (v := .pointer _) rfl rfl) ?_
    refine seqQ rfl rfl (yNilCheck rfl rfl) ?_
    refine seqQ rfl rfl (yFieldAddr rfl Try.underlying134 rfl Try.sizeOf3 rfl rfl) ?_
    refine seqQ rfl rfl (yLoad rfl Try.underlying3 rfl rfl (h.blk.cell rfl)) ?_
    refine seqQ rfl rfl (yAssign (v := .int _ _) rfl rfl) ?_
    refine seqNil ?_
    refine hF5 _ _ ?_; clear hF5
    refine wpSeq fun F6 hF6 => ?_
    refine wpRegion ?_
    refine seqQ rfl rfl (yMove (v := .func _ _ _) rfl rfl) ?_
    -- e slot 22: callv t21 
    refine seqE rfl rfl (stepCallV (first := first) (cap := cap) rfl hf rfl rfl ?_)
    refine (hread rfl).mono ?_
    rintro v H1 hr
    obtain ⟨hK1, f1, k1, h1, hc1⟩ := hr.flat
    obtain ⟨A, n, c, rfl⟩ : ∃ A n c, v = .slice A n c := by
      rcases hc1 with ⟨_, _, hu⟩ | ⟨_, a, _, hv⟩
      · exact hU _ _ hu
      · exact hV _ _ _ hv
    refine seqQ rfl rfl (yAssign (v := .slice _ _ _) rfl rfl) ?_
    refine seqNil ?_
    refine hF6 _ _ ?_; clear hF6
    refine wpSeq fun F7 hF7 => ?_
    refine wpSeq fun F8 hF8 => ?_
    refine wpRegion ?_
    refine seqQ rfl rfl (yMove (v := .pointer _) rfl rfl) ?_
    refine seqQ rfl rfl (yNilCheck rfl rfl) ?_
    refine seqQ rfl rfl (yFieldAddr rfl Try.underlying134 rfl Try.sizeOf4 rfl rfl) ?_
    refine seqQ rfl rfl (yLoad rfl Try.underlying4 rfl rfl (h1.blk.cell rfl)) ?_
    refine seqNil ?_
    refine hF8 _ _ ?_; clear hF8
    -- if t26
    rcases hc1 with ⟨rfl, hp, hu⟩ | ⟨rfl, a, hp, hv⟩
    · skip
      refine wpT rfl ?_
      refine wpSeq fun F9 hF9 => ?_
      refine wpRegion ?_
      refine seqQ rfl rfl (yMove (v := .pointer _) rfl rfl) ?_
      refine seqQ rfl rfl (yMove (v := .int _ _) rfl rfl) ?_
      refine seqQ rfl rfl (yNilCheck rfl rfl) ?_
      refine seqQ rfl rfl (yFieldAddr rfl Try.underlying134 rfl Try.sizeOf3 rfl rfl) ?_
      -- e slot None: store T3 t30 t28
      refine seqE0 rfl rfl (stepStore rfl Try.sizeOf3 rfl rfl rfl rfl h1.blk (Nat.le_of_ble_eq_true rfl) ?_)
      intro H3 hB3 hK3
      refine seqNil ?_
      refine hF9 _ _ ?_; clear hF9
      refine wpSeq fun F10 hF10 => ?_
      refine wpRegion ?_
      refine seqQ rfl rfl (yMove (v := .slice _ _ _) rfl rfl) ?_
      refine seqQ rfl rfl (yAssign (v := .slice _ _ _) rfl rfl) ?_
      refine seqNil ?_
      refine hF10 _ _ ?_; clear hF10
      -- ret
      refine wpRet (fin1 (v := .slice _ _ _) rfl rfl ?_)
      exact ⟨hK1.trans hK3, .inr ⟨hp, h1.store hB3 hK3 h.le, rfl⟩⟩
    · skip
      refine wpF rfl ?_
      refine wpSkip ?_
      refine hF7 _ _ ?_; clear hF7
      refine wpSeq fun F11 hF11 => ?_
      refine wpRegion ?_
      refine seqQ rfl rfl (yMove (v := .slice _ _ _) rfl rfl) ?_
      refine seqQ rfl rfl (yAssign (v := .slice _ _ _) rfl rfl) ?_
      refine seqNil ?_
      refine hF11 _ _ ?_; clear hF11
      -- ret
      refine wpRet (fin1 (v := .slice _ _ _) rfl rfl ?_)
      exact ⟨hK1, .inl ⟨a, k1, hp, h1, hv⟩⟩
  · skip
    refine wpT rfl ?_
    refine wpSeq fun F12 hF12 => ?_
    refine wpRegion ?_
    refine seqQ rfl rfl (yMove (v := .slice _ _ _) rfl rfl) ?_
    refine seqQ rfl rfl (yAssign (v := .slice _ _ _) rfl rfl) ?_
    refine seqNil ?_
    refine hF12 _ _ ?_; clear hF12
    -- ret
    refine wpRet (fin1 (v := .slice _ _ _) rfl rfl ?_)
    exact ⟨Keep.refl _ _, .inr ⟨rfl, h, rfl⟩⟩

set_option maxRecDepth 100000 in
theorem Int_c (g : Nat) (B : Option Addr) (cB : Nat) (D : List UInt8) (k : Nat) (f : Bool) (H : Heap) (h : Rdr H g B cB D k f) :
    CallsH Try.prog 72 [.pointer (some ⟨g, 0, none⟩)] H fun v H' => PP rdI VI (.int .i64 0) g B cB D k f H v H' := by
  refine callsH_of Try.func72 rfl Try.ntmps72 (Nat.le_of_ble_eq_true rfl) ?_
  refine wpSeq fun F1 hF1 => ?_
  refine wpRegion ?_
  refine seqQ rfl rfl (yAssign (v := .int _ _) rfl rfl) ?_
  refine seqNil ?_
  refine hF1 _ _ ?_; clear hF1
  refine wpSeq fun F2 hF2 => ?_
  refine wpRegion ?_
  refine seqQ rfl rfl (yMove (v := .pointer _) rfl rfl) ?_
  refine seqQ rfl rfl (yMove (v := .pointer _) rfl rfl) ?_
  refine seqQ rfl rfl (yMakeFunc (first := [.tmp 4]) (captured := []) (vs := [.pointer _]) (us := []) rfl rfl rfl) ?_
  -- e slot 6: call F89<farandole/wire.part[int]> t3 t5
  refine seqE rfl rfl (stepCall rfl Try.call89 rfl ?_)
  refine (part_int (p := rdI) (V := VI) (U := UI) 90 [.pointer (some ⟨g, 0, none⟩)] [] g B cB D k f H h Try.call90 (fun hf => hf ▸ integer_c g B cB D k f H h) (fun _ _ _ h => ⟨_, h.1⟩) (fun _ _ h => h)).mono ?_
  rintro v H1 hr
  obtain ⟨z, rfl⟩ : ∃ z, v = .int .i64 z := by
    rcases hr.2 with ⟨a, _, _, _, rfl, _⟩ | ⟨_, _, rfl⟩
    · exact ⟨_, rfl⟩
    · exact ⟨_, rfl⟩
  refine seqQ rfl rfl (yAssign (v := .int _ _) rfl rfl) ?_
  refine seqNil ?_
  refine hF2 _ _ ?_; clear hF2
  -- ret
  refine wpRet (fin1 (v := .int _ _) rfl rfl ?_)
  exact hr
set_option maxRecDepth 100000 in
theorem PP.from {α : Type} {p : List UInt8 → Option (α × List UInt8)} {V : Heap → α → Value → Prop} {Z : Value} {g : Nat} {B : Option Addr} {cB : Nat} {D : List UInt8} {k : Nat} {f : Bool} {H H1 : Heap} {v : Value} {H' : Heap} (h : PP p V Z g B cB D k f H1 v H') (hx : Ext H H1) : PP p V Z g B cB D k f H v H' := ⟨(hx.keep _).trans h.1, h.2⟩
set_option maxRecDepth 100000 in
theorem PP.mono {α : Type} {p : List UInt8 → Option (α × List UInt8)} {V V' : Heap → α → Value → Prop} {Z : Value} {g : Nat} {B : Option Addr} {cB : Nat} {D : List UInt8} {k : Nat} {f : Bool} {H : Heap} {v : Value} {H' : Heap} (h : PP p V Z g B cB D k f H v H') (hv : ∀ H a v, V H a v → V' H a v) : PP p V' Z g B cB D k f H v H' :=
  ⟨h.1, h.2.imp (fun ⟨a, k', h1, h2, h3⟩ => ⟨a, k', h1, h2, hv _ _ _ h3⟩) id⟩
def VO (b0 : Nat) (H : Heap) (b : List UInt8) (v : Value) : Prop := Own eByte 5 H b0 v b
set_option maxRecDepth 100000 in
theorem Own.shape {α : Type} {c : El α} {e : TypeId} {H : Heap} {b : Nat} {v : Value} {l : List α} (h : Own c e H b v l) : ∃ A n c, v = .slice A n c := by obtain ⟨A, c, rfl, -⟩ := h.form; exact ⟨_, _, _, rfl⟩
set_option maxRecDepth 100000 in
theorem pBytes_lt {m : Int} {b x r : List UInt8} (h : pBytes m b = some (x, r)) : x.length ≤ b.length := by
  unfold pBytes pBnd at h
  cases hq : rdI b with
  | none => rw [hq] at h; cases h
  | some y =>
    rw [hq] at h
    simp only [Option.bind_some] at h
    by_cases hy : 0 ≤ y.1 ∧ y.1 ≤ m
    · rw [if_pos hy] at h
      simp only [Option.bind_some] at h
      split at h
      · rename_i hl
        simp only [Option.some.injEq, Prod.mk.injEq] at h
        have hc := congrArg List.length (rdI_canon (n := y.1) (r := y.2) hq).1
        rw [List.length_append] at hc
        rw [← h.1, List.length_take]
        omega
      · cases h
    · rw [if_neg hy] at h; cases h
def VT (_ : Heap) (b : List UInt8) (v : Value) : Prop := v = .string ⟨b.toArray⟩
set_option maxRecDepth 100000 in
theorem Ints1_c (g b2 b3 : Nat) (T2 T3 : TypeId) (B : Option Addr) (cB : Nat) (D : List UInt8) (k : Nat) (most : Int) (H : Heap) (h : Rdr H g B cB D k false) (h2 : Blk H b2 [.pointer (some ⟨g, 0, none⟩)] T2) (h3 : Blk H b3 [.int .i64 most] T3) (hm : most ≤ 1000000) :
    CallsH Try.prog 96 [.pointer (some ⟨b2, 0, none⟩), .pointer (some ⟨b3, 0, none⟩)] H fun v H' => RP (pList rdI most) (VL eInt 3 H.size P64) UL g B cB D k false H v H' := by
  refine callsH_of Try.func96 rfl Try.ntmps96 (Nat.le_of_ble_eq_true rfl) ?_
  refine wpSeq fun F1 hF1 => ?_
  refine wpRegion ?_
  refine seqQ rfl rfl (yAssign (v := .slice _ _ _) rfl rfl) ?_
  refine seqNil ?_
  refine hF1 _ _ ?_; clear hF1
  refine wpSeq fun F2 hF2 => ?_
  refine wpRegion ?_
  refine seqQ rfl rfl (yLoad rfl Try.underlying110 rfl rfl (h2.cell (j := 0) rfl)) ?_
  refine seqQ rfl rfl (yLoad rfl Try.underlying3 rfl rfl (h3.cell (j := 0) rfl)) ?_
  refine seqQ rfl rfl (yLoad rfl Try.underlying110 rfl rfl (h2.cell (j := 0) rfl)) ?_
  refine seqQ rfl rfl (yMakeFunc (first := [.tmp 5]) (captured := []) (vs := [.pointer _]) (us := []) rfl rfl rfl) ?_
  -- e slot 7: call F97<farandole/wire.list[int]> t3 t4 t6
  refine seqE rfl rfl (stepCall rfl Try.call97 rfl ?_)
  refine (listI_r g B cB D k false most H h hm).mono ?_
  rintro v H1 hr
  obtain ⟨A, n, c, rfl⟩ : ∃ A n c, v = .slice A n c := by
    rcases hr.2 with ⟨a, _, _, _, _, _, h, _⟩ | ⟨_, _, h⟩
    · exact h.shape
    · exact h
  refine seqQ rfl rfl (yAssign (v := .slice _ _ _) rfl rfl) ?_
  refine seqNil ?_
  refine hF2 _ _ ?_; clear hF2
  -- ret
  refine wpRet (fin1 (v := .slice _ _ _) rfl rfl ?_)
  exact hr
set_option maxRecDepth 100000 in
theorem Ints_c (g : Nat) (B : Option Addr) (cB : Nat) (D : List UInt8) (k : Nat) (f : Bool) (most : Int) (H : Heap) (h : Rdr H g B cB D k f) (hm : most ≤ 1000000) :
    CallsH Try.prog 74 [.pointer (some ⟨g, 0, none⟩), .int .i64 most] H fun v H' => PP (pList rdI most) (VL eInt 3 H.size P64) (.slice none 0 0) g B cB D k f H v H' := by
  refine callsH_of Try.func74 rfl Try.ntmps74 (Nat.le_of_ble_eq_true rfl) ?_
  refine wpSeq fun F1 hF1 => ?_
  refine wpRegion ?_
  refine seqN rfl rfl (nBox (v := .pointer _) rfl rfl rfl) (fun g2 H2 hx2 hB2 hg2 hl2 => ?_)
  refine seqN rfl rfl (nBox (v := .int _ _) rfl rfl rfl) (fun g3 H3 hx3 hB3 hg3 hl3 => ?_)
  refine seqQ rfl rfl (yAssign (v := .slice _ _ _) rfl rfl) ?_
  refine seqNil ?_
  refine hF1 _ _ ?_; clear hF1
  refine wpSeq fun F2 hF2 => ?_
  refine wpRegion ?_
  refine seqQ rfl rfl (yLoad rfl Try.underlying110 rfl rfl ((hB2.ext hx3).cell (j := 0) rfl)) ?_
  refine seqQ rfl rfl (yMakeFunc (first := []) (captured := [.tmp 2, .tmp 3]) (vs := []) (us := [.pointer _, .pointer _]) rfl rfl rfl) ?_
  -- e slot 7: call F95<farandole/wire.part[[]int]> t5 t6
  refine seqE rfl rfl (stepCall rfl Try.call95 rfl ?_)
  have hx := hx2.trans hx3
  refine (part_ints (p := pList rdI most) (V := VL eInt 3 H3.size P64) (U := UL) 96 [] [.pointer (some ⟨g2, 0, none⟩), .pointer (some ⟨g3, 0, none⟩)] g B cB D k f H3 (h.ext hx) Try.call96 (fun hf => by
    subst hf
    exact Ints1_c g g2 g3 _ _ B cB D k most H3 (h.ext hx) (hB2.ext hx3) hB3 hm) (fun _ _ _ h => h.1.shape) (fun _ _ h => h)).mono ?_
  rintro v H1 hr
  obtain ⟨A, n, c, rfl⟩ : ∃ A n c, v = .slice A n c := by
    rcases hr.2 with ⟨a, _, _, _, h, _⟩ | ⟨_, _, rfl⟩
    · exact h.shape
    · exact ⟨_, _, _, rfl⟩
  refine seqQ rfl rfl (yAssign (v := .slice _ _ _) rfl rfl) ?_
  refine seqNil ?_
  refine hF2 _ _ ?_; clear hF2
  -- ret
  refine wpRet (fin1 (v := .slice _ _ _) rfl rfl ?_)
  exact (hr.from hx).mono (fun _ _ _ h => ⟨Own.mono h.1 hx.size, h.2⟩)
set_option maxRecDepth 100000 in
theorem Values1_c (g b2 b3 : Nat) (T2 T3 : TypeId) (B : Option Addr) (cB : Nat) (D : List UInt8) (k : Nat) (most : Int) (H : Heap) (h : Rdr H g B cB D k false) (h2 : Blk H b2 [.pointer (some ⟨g, 0, none⟩)] T2) (h3 : Blk H b3 [.int .i64 most] T3) (hm : most ≤ 1000000) :
    CallsH Try.prog 92 [.pointer (some ⟨b2, 0, none⟩), .pointer (some ⟨b3, 0, none⟩)] H fun v H' => RP (pList pVal most) (VL eWV 80 H.size OkW) UL g B cB D k false H v H' := by
  refine callsH_of Try.func92 rfl Try.ntmps92 (Nat.le_of_ble_eq_true rfl) ?_
  refine wpSeq fun F1 hF1 => ?_
  refine wpRegion ?_
  refine seqQ rfl rfl (yAssign (v := .slice _ _ _) rfl rfl) ?_
  refine seqNil ?_
  refine hF1 _ _ ?_; clear hF1
  refine wpSeq fun F2 hF2 => ?_
  refine wpRegion ?_
  refine seqQ rfl rfl (yLoad rfl Try.underlying110 rfl rfl (h2.cell (j := 0) rfl)) ?_
  refine seqQ rfl rfl (yLoad rfl Try.underlying3 rfl rfl (h3.cell (j := 0) rfl)) ?_
  refine seqQ rfl rfl (yLoad rfl Try.underlying110 rfl rfl (h2.cell (j := 0) rfl)) ?_
  refine seqQ rfl rfl (yMakeFunc (first := [.tmp 5]) (captured := []) (vs := [.pointer _]) (us := []) rfl rfl rfl) ?_
  -- e slot 7: call F93<farandole/wire.list[farandole/api.Value]> t3 t4 t6
  refine seqE rfl rfl (stepCall rfl Try.call93 rfl ?_)
  refine (listV_r g B cB D k false most H h hm).mono ?_
  rintro v H1 hr
  obtain ⟨A, n, c, rfl⟩ : ∃ A n c, v = .slice A n c := by
    rcases hr.2 with ⟨a, _, _, _, _, _, h, _⟩ | ⟨_, _, h⟩
    · exact h.shape
    · exact h
  refine seqQ rfl rfl (yAssign (v := .slice _ _ _) rfl rfl) ?_
  refine seqNil ?_
  refine hF2 _ _ ?_; clear hF2
  -- ret
  refine wpRet (fin1 (v := .slice _ _ _) rfl rfl ?_)
  exact hr
set_option maxRecDepth 100000 in
theorem Values_c (g : Nat) (B : Option Addr) (cB : Nat) (D : List UInt8) (k : Nat) (f : Bool) (most : Int) (H : Heap) (h : Rdr H g B cB D k f) (hm : most ≤ 1000000) :
    CallsH Try.prog 73 [.pointer (some ⟨g, 0, none⟩), .int .i64 most] H fun v H' => PP (pList pVal most) (VL eWV 80 H.size OkW) (.slice none 0 0) g B cB D k f H v H' := by
  refine callsH_of Try.func73 rfl Try.ntmps73 (Nat.le_of_ble_eq_true rfl) ?_
  refine wpSeq fun F1 hF1 => ?_
  refine wpRegion ?_
  refine seqN rfl rfl (nBox (v := .pointer _) rfl rfl rfl) (fun g2 H2 hx2 hB2 hg2 hl2 => ?_)
  refine seqN rfl rfl (nBox (v := .int _ _) rfl rfl rfl) (fun g3 H3 hx3 hB3 hg3 hl3 => ?_)
  refine seqQ rfl rfl (yAssign (v := .slice _ _ _) rfl rfl) ?_
  refine seqNil ?_
  refine hF1 _ _ ?_; clear hF1
  refine wpSeq fun F2 hF2 => ?_
  refine wpRegion ?_
  refine seqQ rfl rfl (yLoad rfl Try.underlying110 rfl rfl ((hB2.ext hx3).cell (j := 0) rfl)) ?_
  refine seqQ rfl rfl (yMakeFunc (first := []) (captured := [.tmp 2, .tmp 3]) (vs := []) (us := [.pointer _, .pointer _]) rfl rfl rfl) ?_
  -- e slot 7: call F91<farandole/wire.part[[]farandole/api.Value]> t5 t6
  refine seqE rfl rfl (stepCall rfl Try.call91 rfl ?_)
  have hx := hx2.trans hx3
  refine (part_vals (p := pList pVal most) (V := VL eWV 80 H3.size OkW) (U := UL) 92 [] [.pointer (some ⟨g2, 0, none⟩), .pointer (some ⟨g3, 0, none⟩)] g B cB D k f H3 (h.ext hx) Try.call92 (fun hf => by
    subst hf
    exact Values1_c g g2 g3 _ _ B cB D k most H3 (h.ext hx) (hB2.ext hx3) hB3 hm) (fun _ _ _ h => h.1.shape) (fun _ _ h => h)).mono ?_
  rintro v H1 hr
  obtain ⟨A, n, c, rfl⟩ : ∃ A n c, v = .slice A n c := by
    rcases hr.2 with ⟨a, _, _, _, h, _⟩ | ⟨_, _, rfl⟩
    · exact h.shape
    · exact ⟨_, _, _, rfl⟩
  refine seqQ rfl rfl (yAssign (v := .slice _ _ _) rfl rfl) ?_
  refine seqNil ?_
  refine hF2 _ _ ?_; clear hF2
  -- ret
  refine wpRet (fin1 (v := .slice _ _ _) rfl rfl ?_)
  exact (hr.from hx).mono (fun _ _ _ h => ⟨Own.mono h.1 hx.size, h.2⟩)

set_option maxRecDepth 100000 in
theorem New_c (A : Option Addr) (ca : Nat) (x : List UInt8) (H : Heap) (hA : Rd eByte H A x) (hl : x.length ≤ 1000000) :
    CallsH Try.prog 71 [.slice A x.length ca] H fun v H' => Ext H H' ∧ ∃ g B cB, v = .pointer (some ⟨g, 0, none⟩) ∧ H.size ≤ g ∧ Rdr H' g B cB x 0 false ∧ (∀ p, B = some p → H.size ≤ p.block) := by
  refine callsH_of Try.func71 rfl Try.ntmps71 (Nat.le_of_ble_eq_true rfl) ?_
  refine wpSeq fun F1 hF1 => ?_
  refine wpRegion ?_
  refine seqQ rfl rfl (yAssign (v := .pointer _) rfl rfl) ?_
  refine seqNil ?_
  refine hF1 _ _ ?_; clear hF1
  refine wpSeq fun F2 hF2 => ?_
  refine wpRegion ?_
  refine seqQ rfl rfl (yMove (v := .slice _ _ _) rfl rfl) ?_
  -- e slot 4: builtin append [nilslice:0:0] t3 : [58, 58]
  refine seqE rfl rfl (stepApp (c := eByte) (Own.nil _ H.size) rfl Try.underlying58 elem_eByte rfl (by omega) rfl rfl rfl hA (by simp; omega) (Nat.le_refl _) ?_)
  intro v' H1 ho hg
  rw [List.nil_append] at ho
  have hx1 : Ext H H1 := Keep.ext hg.1
  obtain ⟨B, cB, rfl, hc, hr, hb⟩ := ho.form
  refine seqQ rfl rfl (yBuild (pl := [(0, 1), (1, 1), (2, 1)]) (vs := [(0, .slice _ _ _)]) rfl Try.underlying134 Try.zeroValue134 rfl (by unfold Places; kernel_rfl) rfl rfl) ?_
  refine seqN rfl rfl (nBoxA rfl rfl) (fun g6 H6 hx6 hB6 hg6 hl6 => ?_)
  refine seqQ rfl rfl (yAssign (v := .pointer _) rfl rfl) ?_
  refine seqNil ?_
  refine hF2 _ _ ?_; clear hF2
  -- ret
  refine wpRet (fin1 (v := .pointer _) rfl rfl ?_)
  refine ⟨hx1.trans hx6, g6, B, cB, rfl, by have := hx1.size; omega, ⟨hB6, RdM.of (hr.ext hx6) (fun p e hm => by have := (hb p e).2.1; simp at hm; omega), Nat.zero_le _, hc, hl⟩, fun p e => (hb p e).1⟩
set_option maxRecDepth 100000 in
theorem Left_c (g : Nat) (B : Option Addr) (cB : Nat) (D : List UInt8) (k : Nat) (f : Bool) (H : Heap) (h : Rdr H g B cB D k f) :
    CallsH Try.prog 98 [.pointer (some ⟨g, 0, none⟩)] H fun v H' => v = .int .i64 ((D.length : Int) - (k : Int)) ∧ H' = H := by
  have hfew := h.few
  have hle := h.le
  refine callsH_of Try.func98 rfl Try.ntmps98 (Nat.le_of_ble_eq_true rfl) ?_
  refine wpSeq fun F1 hF1 => ?_
  refine wpRegion ?_
  refine seqQ rfl rfl (yAssign (v := .int _ _) rfl rfl) ?_
  refine seqNil ?_
  refine hF1 _ _ ?_; clear hF1
  refine wpSeq fun F2 hF2 => ?_
  refine wpSeq fun F3 hF3 => ?_
  refine wpRegion ?_
  refine seqQ rfl rfl (yMove (v := .pointer _) rfl rfl) ?_
  refine seqQ rfl rfl (yEqlPN rfl Try.underlying110 rfl rfl) ?_
  refine seqNil ?_
  refine hF3 _ _ ?_; clear hF3
  -- if t4
  refine wpF rfl ?_
  refine wpSkip ?_
  refine hF2 _ _ ?_; clear hF2
  refine wpSeq fun F4 hF4 => ?_
  refine wpRegionD Try_mixed [.q, .q, .q, .q, .q, .q, .q, .q, .q, .q, .q] 9 [0, 1, 3, 7, 15, 0, 32, 96, 224, 511, 1023] [] (by kernel_rfl) _ rfl [0, 1, 2, 3, 4, 5, 6, 7, 8] rfl (by simp) ?_
  refine lexQ rfl rfl rfl rfl (fun H hM => (yMove (v := .pointer _) rfl rfl)) ?_
  refine lexQ rfl rfl rfl rfl (fun H hM => (yNilCheck rfl rfl)) ?_
  refine lexQ rfl rfl rfl rfl (fun H hM => (yFieldAddr rfl Try.underlying134 rfl Try.sizeOf58 rfl rfl)) ?_
  refine lexQ rfl rfl rfl rfl (fun H hM => (yLoad rfl Try.underlying58 rfl rfl (hM.ext.cell (h.blk.cell rfl)))) ?_
  refine lexQ rfl rfl rfl rfl (fun H hM => (yLen rfl Try.underlying58 rfl)) ?_
  refine lexQ rfl rfl rfl rfl (fun H hM => (yMove (v := .pointer _) rfl rfl)) ?_
  refine lexQ rfl rfl rfl rfl (fun H hM => (yNilCheck rfl rfl)) ?_
  refine lexQ rfl rfl rfl rfl (fun H hM => (yFieldAddr rfl Try.underlying134 rfl Try.sizeOf3 rfl rfl)) ?_
  refine lexQ rfl rfl rfl rfl (fun H hM => (yLoad rfl Try.underlying3 rfl rfl (hM.ext.cell (h.blk.cell rfl)))) ?_
  -- tail
  refine lexNil0 rfl (fun hM => ?_)
  refine seqQ rfl rfl (ySub rfl rfl rfl (by unfold In64; omega)) ?_
  refine seqQ rfl rfl (yAssign (v := .int _ _) rfl rfl) ?_
  refine seqNil ?_
  refine hF4 _ _ ?_; clear hF4
  -- ret
  refine wpRet (fin1 (v := .int _ _) rfl rfl ?_)
  exact ⟨rfl, rfl⟩
set_option maxRecDepth 100000 in
theorem End_c (g : Nat) (B : Option Addr) (cB : Nat) (D : List UInt8) (k : Nat) (f : Bool) (H : Heap) (h : Rdr H g B cB D k f) :
    CallsH Try.prog 75 [.pointer (some ⟨g, 0, none⟩)] H fun v H' => v = .int .i64 (if f = true ∨ k < D.length then 4 else 0) ∧ H' = H := by
  refine callsH_of Try.func75 rfl Try.ntmps75 (Nat.le_of_ble_eq_true rfl) ?_
  refine wpSeq fun F1 hF1 => ?_
  refine wpRegion ?_
  refine seqQ rfl rfl (yAssign (v := .int _ _) rfl rfl) ?_
  refine seqNil ?_
  refine hF1 _ _ ?_; clear hF1
  refine wpSeq fun F2 hF2 => ?_
  refine wpBlock ?_
  refine wpSeq fun F3 hF3 => ?_
  refine wpRegion ?_
  refine seqQ rfl rfl (yMove (v := .pointer _) rfl rfl) ?_
  refine seqQ rfl rfl (yEqlPN rfl Try.underlying110 rfl rfl) ?_
  refine seqQ rfl rfl (yAssign (v := .bool _) rfl rfl) ?_
  refine seqNil ?_
  refine hF3 _ _ ?_; clear hF3
  -- if t3
  refine wpF rfl ?_
  refine wpSeq fun F4 hF4 => ?_
  refine wpRegion ?_
  refine seqQ rfl rfl (yMove (v := .pointer _) rfl rfl) ?_
  refine seqQ rfl rfl (yNilCheck rfl rfl) ?_
  refine seqQ rfl rfl (yFieldAddr rfl Try.underlying134 rfl Try.sizeOf4 rfl rfl) ?_
  refine seqQ rfl rfl (yLoad rfl Try.underlying4 rfl rfl (h.blk.cell rfl)) ?_
  -- guard t11
  cases f
  · skip
    refine seqQ rfl rfl (yMove (v := .bool false) rfl rfl) ?_
    refine seqQ rfl rfl (yMove (v := .pointer _) rfl rfl) ?_
    -- e slot 13: call F98<(*farandole/wire.Reader).Left> t12
    refine seqE rfl rfl (stepCall rfl Try.call98 rfl ?_)
    refine (Left_c g B cB D k false H h).mono ?_
    rintro v _ ⟨rfl, e⟩
    obtain rfl := e.symm
    clear e
    have hle := h.le
    refine seqQ rfl rfl (yGtr rfl rfl rfl) ?_
    refine seqQ rfl rfl (yPickF (v := .bool _) rfl rfl rfl) ?_
    refine seqQ rfl rfl (yAssign (v := .bool _) rfl rfl) ?_
    refine seqNil ?_
    refine hF4 _ _ ?_; clear hF4
    -- if t6
    refine wpIf rfl (fun hgt => ?_) (fun hgt => ?_)
    · skip
      refine wpSeq fun F5 hF5 => ?_
      refine wpRegion ?_
      refine seqQ rfl rfl (yAssign (v := .int _ _) rfl rfl) ?_
      refine seqNil ?_
      refine hF5 _ _ ?_; clear hF5
      -- ret
      refine wpRet (fin1 (v := .int _ _) rfl rfl ?_)
      exact ⟨by rw [if_pos (.inr (by omega))], rfl⟩
    · skip
      refine wpSkip ?_
      refine hF2 _ _ ?_; clear hF2
      refine wpSeq fun F6 hF6 => ?_
      refine wpRegion ?_
      refine seqQ rfl rfl (yAssign (v := .int _ _) rfl rfl) ?_
      refine seqNil ?_
      refine hF6 _ _ ?_; clear hF6
      -- ret
      refine wpRet (fin1 (v := .int _ _) rfl rfl ?_)
      exact ⟨by rw [if_neg (by simp; omega)], rfl⟩
  · skip
    refine seqQ rfl rfl (yMove (v := .bool true) rfl rfl) ?_
    refine seqU rfl rfl ?_
    refine seqU rfl rfl ?_
    refine seqU rfl rfl ?_
    refine seqQ rfl rfl (yPickT (v := .bool _) rfl rfl rfl) ?_
    refine seqQ rfl rfl (yAssign (v := .bool _) rfl rfl) ?_
    refine seqNil ?_
    refine hF4 _ _ ?_; clear hF4
    -- if t6
    refine wpT rfl ?_
    refine wpSeq fun F7 hF7 => ?_
    refine wpRegion ?_
    refine seqQ rfl rfl (yAssign (v := .int _ _) rfl rfl) ?_
    refine seqNil ?_
    refine hF7 _ _ ?_; clear hF7
    -- ret
    refine wpRet (fin1 (v := .int _ _) rfl rfl ?_)
    exact ⟨by rw [if_pos (.inl rfl)], rfl⟩
end Go.Proofs.Ytcfnmklbkhibgaa
