/- Package wire: the reader: what its users call. -/
import Derived.Test.YtnccbnjjnijbhaaW7
namespace Go.Proofs.Ytnccbnjjnijbhaa
open Go.RowKit

section
variable {P : Program} {n : Nat} {o : Oper} {E : Env} {H : Heap} {x y : Operand} {T yT e : TypeId} {p : Addr}
set_option maxRecDepth 100000 in
theorem yEqlPN (ho : o.op = .binOp .eql T x y yT) (hT : P.underlying T = some (.pointer e)) (hx : ev n E x = .pointer (some p)) (hy : ev n E y = .pointer none) : Yld P n o E H (.bool false) := fun w _ => by
  have hg : (eqGuard .eql T x y (.pointer (some p)) (.pointer none)).run P w = .ok () w := by simp [eqGuard]
  have he : (Op.equal T (.pointer (some p)) (.pointer none)).run P w = .ok false w := by
    have h : ∀ d : Nat, (Op.equalIn (d + 1) T (.pointer (some p)) (.pointer none)).run P w = .ok false w := fun d => by simp [Op.equalIn, run_underlying hT]
    simp only [Op.equal, Op.maxDepth]
    exact h 9999
  have hb : (binOp .eql T (.pointer (some p)) (.pointer none)).run P w = .ok (.bool false) w := by simp only [binOp]; simp [he]
  unfold execOp
  simp only [ho, hx, hy]
  simp [hg, hb]
end
/-- What a public method leaves: what is read, or the reader at its offset, failed, and a zero value. -/
def PP {α : Type} (p : List UInt8 → Option (α × List UInt8)) (V : Heap → α → Value → Prop) (Z : Value) (g : Nat) (B : Option Addr) (cB : Nat) (D : List UInt8) (k : Nat) (f : Bool) (H : Heap) (v : Value) (H' : Heap) : Prop :=
  Keep [g] H H' ∧ ((∃ a k', prs p f D k = some (a, D.drop k') ∧ Rdr H' g B cB D k' false ∧ V H' a v) ∨ (prs p f D k = none ∧ Rdr H' g B cB D k true ∧ v = Z))
set_option maxRecDepth 100000 in
theorem part_int {α : Type} {p : List UInt8 → Option (α × List UInt8)} {V : Heap → α → Value → Prop} {U : Heap → Value → Prop} (fid : FuncId) (first cap : List Value) (g : Nat) (B : Option Addr) (cB : Nat) (D : List UInt8) (k : Nat) (f : Bool) (H : Heap) (h : Rdr H g B cB D k f)
    (hf : ∀ (args : Array Value) (w : World), (callFunc fid args).run Try.prog w = .ok (.enter fid args) w) (hread : f = false → CallsH Try.prog fid (first ++ [] ++ cap) H fun v H' => RP p V U g B cB D k false H v H')
    (hV : ∀ H a v, V H a v → ∃ n, v = .int .i64 n) (hU : ∀ H v, U H v → ∃ n, v = .int .i64 n) :
    CallsH Try.prog 41 [.pointer (some ⟨g, 0, none⟩), .func (.func fid) first.toArray cap.toArray] H fun v H' => PP p V (.int .i64 0) g B cB D k f H v H' := by
  refine callsH_of Try.func41 rfl Try.ntmps41 (Nat.le_of_ble_eq_true rfl) ?_
  refine wpSeq fun F1 hF1 => ?_
  refine wpRegion ?_
  refine seqQ rfl rfl (yAssign (v := .int _ _) rfl rfl) ?_
  refine seqNil ?_
  refine hF1 _ _ ?_; clear hF1
  refine wpSeq fun F2 hF2 => ?_
  refine wpRegion ?_
  refine seqQ rfl rfl (yAssign (v := .int _ _) rfl rfl) ?_
  refine seqNil ?_
  refine hF2 _ _ ?_; clear hF2
  refine wpSeq fun F3 hF3 => ?_
  refine wpSeq fun F4 hF4 => ?_
  refine wpRegion ?_
  refine seqQ rfl rfl (yMove (v := .pointer _) rfl rfl) ?_
  refine seqQ rfl rfl (yEqlPN rfl Try.underlying44 rfl rfl) ?_
  refine seqQ rfl rfl (yMove (v := .bool false) rfl rfl) ?_
  refine seqQ rfl rfl (yMove (v := .pointer _) rfl rfl) ?_
  refine seqQ rfl rfl (yNilCheck rfl rfl) ?_
  refine seqQ rfl rfl (yFieldAddr rfl Try.underlying71 rfl Try.sizeOf4 rfl rfl) ?_
  refine seqQ rfl rfl (yLoad rfl Try.underlying4 rfl rfl (h.blk.cell rfl)) ?_
  refine seqQ rfl rfl (yPickF (v := .bool _) rfl rfl rfl) ?_
  refine seqNil ?_
  refine hF4 _ _ ?_; clear hF4
  -- if t15
  cases f
  · skip
    refine wpF rfl ?_
    refine wpSkip ?_
    refine hF3 _ _ ?_; clear hF3
    refine wpSeq fun F5 hF5 => ?_
    refine wpRegion ?_
    refine seqQ rfl rfl (yMove (v := .pointer _) rfl rfl) ?_
    refine seqQ rfl rfl (yNilCheck rfl rfl) ?_
    refine seqQ rfl rfl (yFieldAddr rfl Try.underlying71 rfl Try.sizeOf3 rfl rfl) ?_
    refine seqQ rfl rfl (yLoad rfl Try.underlying3 rfl rfl (h.blk.cell rfl)) ?_
    refine seqQ rfl rfl (yAssign (v := .int _ _) rfl rfl) ?_
    refine seqNil ?_
    refine hF5 _ _ ?_; clear hF5
    refine wpSeq fun F6 hF6 => ?_
    refine wpRegion ?_
    refine seqQ rfl rfl (yMove (v := .func _ _ _) rfl rfl) ?_
    -- e slot 22: callv t21 
    refine seqE rfl rfl (stepCallV (first := first) (cap := cap) rfl hf rfl rfl ?_)
    refine (hread rfl).mono ?_
    rintro v H1 hr
    obtain ⟨hK1, f1, k1, h1, hc1⟩ := hr.flat
    obtain ⟨n, rfl⟩ : ∃ n, v = .int .i64 n := by
      rcases hc1 with ⟨_, _, hu⟩ | ⟨_, a, _, hv⟩
      · exact hU _ _ hu
      · exact hV _ _ _ hv
    refine seqQ rfl rfl (yAssign (v := .int _ _) rfl rfl) ?_
    refine seqNil ?_
    refine hF6 _ _ ?_; clear hF6
    refine wpSeq fun F7 hF7 => ?_
    refine wpSeq fun F8 hF8 => ?_
    refine wpRegion ?_
    refine seqQ rfl rfl (yMove (v := .pointer _) rfl rfl) ?_
    refine seqQ rfl rfl (yNilCheck rfl rfl) ?_
    refine seqQ rfl rfl (yFieldAddr rfl Try.underlying71 rfl Try.sizeOf4 rfl rfl) ?_
    refine seqQ rfl rfl (yLoad rfl Try.underlying4 rfl rfl (h1.blk.cell rfl)) ?_
    refine seqNil ?_
    refine hF8 _ _ ?_; clear hF8
    -- if t26
    rcases hc1 with ⟨rfl, hp, hu⟩ | ⟨rfl, a, hp, hv⟩
    · skip
      refine wpT rfl ?_
      refine wpSeq fun F9 hF9 => ?_
      refine wpRegion ?_
      refine seqQ rfl rfl (yMove (v := .pointer _) rfl rfl) ?_
      refine seqQ rfl rfl (yMove (v := .int _ _) rfl rfl) ?_
      refine seqQ rfl rfl (yNilCheck rfl rfl) ?_
      refine seqQ rfl rfl (yFieldAddr rfl Try.underlying71 rfl Try.sizeOf3 rfl rfl) ?_
      -- e slot None: store T3 t30 t28
      refine seqE0 rfl rfl (stepStore rfl Try.sizeOf3 rfl rfl rfl rfl h1.blk (Nat.le_of_ble_eq_true rfl) ?_)
      intro H3 hB3 hK3
      refine seqNil ?_
      refine hF9 _ _ ?_; clear hF9
      refine wpSeq fun F10 hF10 => ?_
      refine wpRegion ?_
      refine seqQ rfl rfl (yMove (v := .int _ _) rfl rfl) ?_
      refine seqQ rfl rfl (yAssign (v := .int _ _) rfl rfl) ?_
      refine seqNil ?_
      refine hF10 _ _ ?_; clear hF10
      -- ret
      refine wpRet (fin1 (v := .int _ _) rfl rfl ?_)
      exact ⟨hK1.trans hK3, .inr ⟨hp, h1.store hB3 hK3 h.le, rfl⟩⟩
    · skip
      refine wpF rfl ?_
      refine wpSkip ?_
      refine hF7 _ _ ?_; clear hF7
      refine wpSeq fun F11 hF11 => ?_
      refine wpRegion ?_
      refine seqQ rfl rfl (yMove (v := .int _ _) rfl rfl) ?_
      refine seqQ rfl rfl (yAssign (v := .int _ _) rfl rfl) ?_
      refine seqNil ?_
      refine hF11 _ _ ?_; clear hF11
      -- ret
      refine wpRet (fin1 (v := .int _ _) rfl rfl ?_)
      exact ⟨hK1, .inl ⟨a, k1, hp, h1, hv⟩⟩
  · skip
    refine wpT rfl ?_
    refine wpSeq fun F12 hF12 => ?_
    refine wpRegion ?_
    refine seqQ rfl rfl (yMove (v := .int _ _) rfl rfl) ?_
    refine seqQ rfl rfl (yAssign (v := .int _ _) rfl rfl) ?_
    refine seqNil ?_
    refine hF12 _ _ ?_; clear hF12
    -- ret
    refine wpRet (fin1 (v := .int _ _) rfl rfl ?_)
    exact ⟨Keep.refl _ _, .inr ⟨rfl, h, rfl⟩⟩
set_option maxRecDepth 100000 in
theorem part_bool {α : Type} {p : List UInt8 → Option (α × List UInt8)} {V : Heap → α → Value → Prop} {U : Heap → Value → Prop} (fid : FuncId) (first cap : List Value) (g : Nat) (B : Option Addr) (cB : Nat) (D : List UInt8) (k : Nat) (f : Bool) (H : Heap) (h : Rdr H g B cB D k f)
    (hf : ∀ (args : Array Value) (w : World), (callFunc fid args).run Try.prog w = .ok (.enter fid args) w) (hread : f = false → CallsH Try.prog fid (first ++ [] ++ cap) H fun v H' => RP p V U g B cB D k false H v H')
    (hV : ∀ H a v, V H a v → ∃ b, v = .bool b) (hU : ∀ H v, U H v → ∃ b, v = .bool b) :
    CallsH Try.prog 44 [.pointer (some ⟨g, 0, none⟩), .func (.func fid) first.toArray cap.toArray] H fun v H' => PP p V (.bool false) g B cB D k f H v H' := by
  refine callsH_of Try.func44 rfl Try.ntmps44 (Nat.le_of_ble_eq_true rfl) ?_
  refine wpSeq fun F1 hF1 => ?_
  refine wpRegion ?_
  refine seqQ rfl rfl (yAssign (v := .bool _) rfl rfl) ?_
  refine seqNil ?_
  refine hF1 _ _ ?_; clear hF1
  refine wpSeq fun F2 hF2 => ?_
  refine wpRegion ?_
  refine seqQ rfl rfl (yAssign (v := .bool _) rfl rfl) ?_
  refine seqNil ?_
  refine hF2 _ _ ?_; clear hF2
  refine wpSeq fun F3 hF3 => ?_
  refine wpSeq fun F4 hF4 => ?_
  refine wpRegion ?_
  refine seqQ rfl rfl (yMove (v := .pointer _) rfl rfl) ?_
  refine seqQ rfl rfl (yEqlPN rfl Try.underlying44 rfl rfl) ?_
  refine seqQ rfl rfl (yMove (v := .bool false) rfl rfl) ?_
  refine seqQ rfl rfl (yMove (v := .pointer _) rfl rfl) ?_
  refine seqQ rfl rfl (yNilCheck rfl rfl) ?_
  refine seqQ rfl rfl (yFieldAddr rfl Try.underlying71 rfl Try.sizeOf4 rfl rfl) ?_
  refine seqQ rfl rfl (yLoad rfl Try.underlying4 rfl rfl (h.blk.cell rfl)) ?_
  refine seqQ rfl rfl (yPickF (v := .bool _) rfl rfl rfl) ?_
  refine seqNil ?_
  refine hF4 _ _ ?_; clear hF4
  -- if t15
  cases f
  · skip
    refine wpF rfl ?_
    refine wpSkip ?_
    refine hF3 _ _ ?_; clear hF3
    refine wpSeq fun F5 hF5 => ?_
    refine wpRegion ?_
    refine seqQ rfl rfl (yMove (v := .pointer _) rfl rfl) ?_
    refine seqQ rfl rfl (yNilCheck rfl rfl) ?_
    refine seqQ rfl rfl (yFieldAddr rfl Try.underlying71 rfl Try.sizeOf3 rfl rfl) ?_
    refine seqQ rfl rfl (yLoad rfl Try.underlying3 rfl rfl (h.blk.cell rfl)) ?_
    refine seqQ rfl rfl (yAssign (v := .int _ _) rfl rfl) ?_
    refine seqNil ?_
    refine hF5 _ _ ?_; clear hF5
    refine wpSeq fun F6 hF6 => ?_
    refine wpRegion ?_
    refine seqQ rfl rfl (yMove (v := .func _ _ _) rfl rfl) ?_
    -- e slot 22: callv t21 
    refine seqE rfl rfl (stepCallV (first := first) (cap := cap) rfl hf rfl rfl ?_)
    refine (hread rfl).mono ?_
    rintro v H1 hr
    obtain ⟨hK1, f1, k1, h1, hc1⟩ := hr.flat
    obtain ⟨b, rfl⟩ : ∃ b, v = .bool b := by
      rcases hc1 with ⟨_, _, hu⟩ | ⟨_, a, _, hv⟩
      · exact hU _ _ hu
      · exact hV _ _ _ hv
    refine seqQ rfl rfl (yAssign (v := .bool _) rfl rfl) ?_
    refine seqNil ?_
    refine hF6 _ _ ?_; clear hF6
    refine wpSeq fun F7 hF7 => ?_
    refine wpSeq fun F8 hF8 => ?_
    refine wpRegion ?_
    refine seqQ rfl rfl (yMove (v := .pointer _) rfl rfl) ?_
    refine seqQ rfl rfl (yNilCheck rfl rfl) ?_
    refine seqQ rfl rfl (yFieldAddr rfl Try.underlying71 rfl Try.sizeOf4 rfl rfl) ?_
    refine seqQ rfl rfl (yLoad rfl Try.underlying4 rfl rfl (h1.blk.cell rfl)) ?_
    refine seqNil ?_
    refine hF8 _ _ ?_; clear hF8
    -- if t26
    rcases hc1 with ⟨rfl, hp, hu⟩ | ⟨rfl, a, hp, hv⟩
    · skip
      refine wpT rfl ?_
      refine wpSeq fun F9 hF9 => ?_
      refine wpRegion ?_
      refine seqQ rfl rfl (yMove (v := .pointer _) rfl rfl) ?_
      refine seqQ rfl rfl (yMove (v := .int _ _) rfl rfl) ?_
      refine seqQ rfl rfl (yNilCheck rfl rfl) ?_
      refine seqQ rfl rfl (yFieldAddr rfl Try.underlying71 rfl Try.sizeOf3 rfl rfl) ?_
      -- e slot None: store T3 t30 t28
      refine seqE0 rfl rfl (stepStore rfl Try.sizeOf3 rfl rfl rfl rfl h1.blk (Nat.le_of_ble_eq_true rfl) ?_)
      intro H3 hB3 hK3
      refine seqNil ?_
      refine hF9 _ _ ?_; clear hF9
      refine wpSeq fun F10 hF10 => ?_
      refine wpRegion ?_
      refine seqQ rfl rfl (yMove (v := .bool _) rfl rfl) ?_
      refine seqQ rfl rfl (yAssign (v := .bool _) rfl rfl) ?_
      refine seqNil ?_
      refine hF10 _ _ ?_; clear hF10
      -- ret
      refine wpRet (fin1 (v := .bool _) rfl rfl ?_)
      exact ⟨hK1.trans hK3, .inr ⟨hp, h1.store hB3 hK3 h.le, rfl⟩⟩
    · skip
      refine wpF rfl ?_
      refine wpSkip ?_
      refine hF7 _ _ ?_; clear hF7
      refine wpSeq fun F11 hF11 => ?_
      refine wpRegion ?_
      refine seqQ rfl rfl (yMove (v := .bool _) rfl rfl) ?_
      refine seqQ rfl rfl (yAssign (v := .bool _) rfl rfl) ?_
      refine seqNil ?_
      refine hF11 _ _ ?_; clear hF11
      -- ret
      refine wpRet (fin1 (v := .bool _) rfl rfl ?_)
      exact ⟨hK1, .inl ⟨a, k1, hp, h1, hv⟩⟩
  · skip
    refine wpT rfl ?_
    refine wpSeq fun F12 hF12 => ?_
    refine wpRegion ?_
    refine seqQ rfl rfl (yMove (v := .bool _) rfl rfl) ?_
    refine seqQ rfl rfl (yAssign (v := .bool _) rfl rfl) ?_
    refine seqNil ?_
    refine hF12 _ _ ?_; clear hF12
    -- ret
    refine wpRet (fin1 (v := .bool _) rfl rfl ?_)
    exact ⟨Keep.refl _ _, .inr ⟨rfl, h, rfl⟩⟩
set_option maxRecDepth 100000 in
theorem part_bytes {α : Type} {p : List UInt8 → Option (α × List UInt8)} {V : Heap → α → Value → Prop} {U : Heap → Value → Prop} (fid : FuncId) (first cap : List Value) (g : Nat) (B : Option Addr) (cB : Nat) (D : List UInt8) (k : Nat) (f : Bool) (H : Heap) (h : Rdr H g B cB D k f)
    (hf : ∀ (args : Array Value) (w : World), (callFunc fid args).run Try.prog w = .ok (.enter fid args) w) (hread : f = false → CallsH Try.prog fid (first ++ [] ++ cap) H fun v H' => RP p V U g B cB D k false H v H')
    (hV : ∀ H a v, V H a v → ∃ A n c, v = .slice A n c) (hU : ∀ H v, U H v → ∃ A n c, v = .slice A n c) :
    CallsH Try.prog 46 [.pointer (some ⟨g, 0, none⟩), .func (.func fid) first.toArray cap.toArray] H fun v H' => PP p V (.slice none 0 0) g B cB D k f H v H' := by
  refine callsH_of Try.func46 rfl Try.ntmps46 (Nat.le_of_ble_eq_true rfl) ?_
  refine wpSeq fun F1 hF1 => ?_
  refine wpRegion ?_
  refine seqQ rfl rfl (yAssign (v := .slice _ _ _) rfl rfl) ?_
  refine seqNil ?_
  refine hF1 _ _ ?_; clear hF1
  refine wpSeq fun F2 hF2 => ?_
  refine wpRegion ?_
  refine seqQ rfl rfl (yAssign (v := .slice _ _ _) rfl rfl) ?_
  refine seqNil ?_
  refine hF2 _ _ ?_; clear hF2
  refine wpSeq fun F3 hF3 => ?_
  refine wpSeq fun F4 hF4 => ?_
  refine wpRegion ?_
  refine seqQ rfl rfl (yMove (v := .pointer _) rfl rfl) ?_
  refine seqQ rfl rfl (yEqlPN rfl Try.underlying44 rfl rfl) ?_
  refine seqQ rfl rfl (yMove (v := .bool false) rfl rfl) ?_
  refine seqQ rfl rfl (yMove (v := .pointer _) rfl rfl) ?_
  refine seqQ rfl rfl (yNilCheck rfl rfl) ?_
  refine seqQ rfl rfl (yFieldAddr rfl Try.underlying71 rfl Try.sizeOf4 rfl rfl) ?_
  refine seqQ rfl rfl (yLoad rfl Try.underlying4 rfl rfl (h.blk.cell rfl)) ?_
  refine seqQ rfl rfl (yPickF (v := .bool _) rfl rfl rfl) ?_
  refine seqNil ?_
  refine hF4 _ _ ?_; clear hF4
  -- if t15
  cases f
  · skip
    refine wpF rfl ?_
    refine wpSkip ?_
    refine hF3 _ _ ?_; clear hF3
    refine wpSeq fun F5 hF5 => ?_
    refine wpRegion ?_
    refine seqQ rfl rfl (yMove (v := .pointer _) rfl rfl) ?_
    refine seqQ rfl rfl (yNilCheck rfl rfl) ?_
    refine seqQ rfl rfl (yFieldAddr rfl Try.underlying71 rfl Try.sizeOf3 rfl rfl) ?_
    refine seqQ rfl rfl (yLoad rfl Try.underlying3 rfl rfl (h.blk.cell rfl)) ?_
    refine seqQ rfl rfl (yAssign (v := .int _ _) rfl rfl) ?_
    refine seqNil ?_
    refine hF5 _ _ ?_; clear hF5
    refine wpSeq fun F6 hF6 => ?_
    refine wpRegion ?_
    refine seqQ rfl rfl (yMove (v := .func _ _ _) rfl rfl) ?_
    -- e slot 22: callv t21 
    refine seqE rfl rfl (stepCallV (first := first) (cap := cap) rfl hf rfl rfl ?_)
    refine (hread rfl).mono ?_
    rintro v H1 hr
    obtain ⟨hK1, f1, k1, h1, hc1⟩ := hr.flat
    obtain ⟨A, n, c, rfl⟩ : ∃ A n c, v = .slice A n c := by
      rcases hc1 with ⟨_, _, hu⟩ | ⟨_, a, _, hv⟩
      · exact hU _ _ hu
      · exact hV _ _ _ hv
    refine seqQ rfl rfl (yAssign (v := .slice _ _ _) rfl rfl) ?_
    refine seqNil ?_
    refine hF6 _ _ ?_; clear hF6
    refine wpSeq fun F7 hF7 => ?_
    refine wpSeq fun F8 hF8 => ?_
    refine wpRegion ?_
    refine seqQ rfl rfl (yMove (v := .pointer _) rfl rfl) ?_
    refine seqQ rfl rfl (yNilCheck rfl rfl) ?_
    refine seqQ rfl rfl (yFieldAddr rfl Try.underlying71 rfl Try.sizeOf4 rfl rfl) ?_
    refine seqQ rfl rfl (yLoad rfl Try.underlying4 rfl rfl (h1.blk.cell rfl)) ?_
    refine seqNil ?_
    refine hF8 _ _ ?_; clear hF8
    -- if t26
    rcases hc1 with ⟨rfl, hp, hu⟩ | ⟨rfl, a, hp, hv⟩
    · skip
      refine wpT rfl ?_
      refine wpSeq fun F9 hF9 => ?_
      refine wpRegion ?_
      refine seqQ rfl rfl (yMove (v := .pointer _) rfl rfl) ?_
      refine seqQ rfl rfl (yMove (v := .int _ _) rfl rfl) ?_
      refine seqQ rfl rfl (yNilCheck rfl rfl) ?_
      refine seqQ rfl rfl (yFieldAddr rfl Try.underlying71 rfl Try.sizeOf3 rfl rfl) ?_
      -- e slot None: store T3 t30 t28
      refine seqE0 rfl rfl (stepStore rfl Try.sizeOf3 rfl rfl rfl rfl h1.blk (Nat.le_of_ble_eq_true rfl) ?_)
      intro H3 hB3 hK3
      refine seqNil ?_
      refine hF9 _ _ ?_; clear hF9
      refine wpSeq fun F10 hF10 => ?_
      refine wpRegion ?_
      refine seqQ rfl rfl (yMove (v := .slice _ _ _) rfl rfl) ?_
      refine seqQ rfl rfl (yAssign (v := .slice _ _ _) rfl rfl) ?_
      refine seqNil ?_
      refine hF10 _ _ ?_; clear hF10
      -- ret
      refine wpRet (fin1 (v := .slice _ _ _) rfl rfl ?_)
      exact ⟨hK1.trans hK3, .inr ⟨hp, h1.store hB3 hK3 h.le, rfl⟩⟩
    · skip
      refine wpF rfl ?_
      refine wpSkip ?_
      refine hF7 _ _ ?_; clear hF7
      refine wpSeq fun F11 hF11 => ?_
      refine wpRegion ?_
      refine seqQ rfl rfl (yMove (v := .slice _ _ _) rfl rfl) ?_
      refine seqQ rfl rfl (yAssign (v := .slice _ _ _) rfl rfl) ?_
      refine seqNil ?_
      refine hF11 _ _ ?_; clear hF11
      -- ret
      refine wpRet (fin1 (v := .slice _ _ _) rfl rfl ?_)
      exact ⟨hK1, .inl ⟨a, k1, hp, h1, hv⟩⟩
  · skip
    refine wpT rfl ?_
    refine wpSeq fun F12 hF12 => ?_
    refine wpRegion ?_
    refine seqQ rfl rfl (yMove (v := .slice _ _ _) rfl rfl) ?_
    refine seqQ rfl rfl (yAssign (v := .slice _ _ _) rfl rfl) ?_
    refine seqNil ?_
    refine hF12 _ _ ?_; clear hF12
    -- ret
    refine wpRet (fin1 (v := .slice _ _ _) rfl rfl ?_)
    exact ⟨Keep.refl _ _, .inr ⟨rfl, h, rfl⟩⟩
set_option maxRecDepth 100000 in
theorem part_ints {α : Type} {p : List UInt8 → Option (α × List UInt8)} {V : Heap → α → Value → Prop} {U : Heap → Value → Prop} (fid : FuncId) (first cap : List Value) (g : Nat) (B : Option Addr) (cB : Nat) (D : List UInt8) (k : Nat) (f : Bool) (H : Heap) (h : Rdr H g B cB D k f)
    (hf : ∀ (args : Array Value) (w : World), (callFunc fid args).run Try.prog w = .ok (.enter fid args) w) (hread : f = false → CallsH Try.prog fid (first ++ [] ++ cap) H fun v H' => RP p V U g B cB D k false H v H')
    (hV : ∀ H a v, V H a v → ∃ A n c, v = .slice A n c) (hU : ∀ H v, U H v → ∃ A n c, v = .slice A n c) :
    CallsH Try.prog 37 [.pointer (some ⟨g, 0, none⟩), .func (.func fid) first.toArray cap.toArray] H fun v H' => PP p V (.slice none 0 0) g B cB D k f H v H' := by
  refine callsH_of Try.func37 rfl Try.ntmps37 (Nat.le_of_ble_eq_true rfl) ?_
  refine wpSeq fun F1 hF1 => ?_
  refine wpRegion ?_
  refine seqQ rfl rfl (yAssign (v := .slice _ _ _) rfl rfl) ?_
  refine seqNil ?_
  refine hF1 _ _ ?_; clear hF1
  refine wpSeq fun F2 hF2 => ?_
  refine wpRegion ?_
  refine seqQ rfl rfl (yAssign (v := .slice _ _ _) rfl rfl) ?_
  refine seqNil ?_
  refine hF2 _ _ ?_; clear hF2
  refine wpSeq fun F3 hF3 => ?_
  refine wpSeq fun F4 hF4 => ?_
  refine wpRegion ?_
  refine seqQ rfl rfl (yMove (v := .pointer _) rfl rfl) ?_
  refine seqQ rfl rfl (yEqlPN rfl Try.underlying44 rfl rfl) ?_
  refine seqQ rfl rfl (yMove (v := .bool false) rfl rfl) ?_
  refine seqQ rfl rfl (yMove (v := .pointer _) rfl rfl) ?_
  refine seqQ rfl rfl (yNilCheck rfl rfl) ?_
  refine seqQ rfl rfl (yFieldAddr rfl Try.underlying71 rfl Try.sizeOf4 rfl rfl) ?_
  refine seqQ rfl rfl (yLoad rfl Try.underlying4 rfl rfl (h.blk.cell rfl)) ?_
  refine seqQ rfl rfl (yPickF (v := .bool _) rfl rfl rfl) ?_
  refine seqNil ?_
  refine hF4 _ _ ?_; clear hF4
  -- if t15
  cases f
  · skip
    refine wpF rfl ?_
    refine wpSkip ?_
    refine hF3 _ _ ?_; clear hF3
    refine wpSeq fun F5 hF5 => ?_
    refine wpRegion ?_
    refine seqQ rfl rfl (yMove (v := .pointer _) rfl rfl) ?_
    refine seqQ rfl rfl (yNilCheck rfl rfl) ?_
    refine seqQ rfl rfl (yFieldAddr rfl Try.underlying71 rfl Try.sizeOf3 rfl rfl) ?_
    refine seqQ rfl rfl (yLoad rfl Try.underlying3 rfl rfl (h.blk.cell rfl)) ?_
    refine seqQ rfl rfl (yAssign (v := .int _ _) rfl rfl) ?_
    refine seqNil ?_
    refine hF5 _ _ ?_; clear hF5
    refine wpSeq fun F6 hF6 => ?_
    refine wpRegion ?_
    refine seqQ rfl rfl (yMove (v := .func _ _ _) rfl rfl) ?_
    -- e slot 22: callv t21 
    refine seqE rfl rfl (stepCallV (first := first) (cap := cap) rfl hf rfl rfl ?_)
    refine (hread rfl).mono ?_
    rintro v H1 hr
    obtain ⟨hK1, f1, k1, h1, hc1⟩ := hr.flat
    obtain ⟨A, n, c, rfl⟩ : ∃ A n c, v = .slice A n c := by
      rcases hc1 with ⟨_, _, hu⟩ | ⟨_, a, _, hv⟩
      · exact hU _ _ hu
      · exact hV _ _ _ hv
    refine seqQ rfl rfl (yAssign (v := .slice _ _ _) rfl rfl) ?_
    refine seqNil ?_
    refine hF6 _ _ ?_; clear hF6
    refine wpSeq fun F7 hF7 => ?_
    refine wpSeq fun F8 hF8 => ?_
    refine wpRegion ?_
    refine seqQ rfl rfl (yMove (v := .pointer _) rfl rfl) ?_
    refine seqQ rfl rfl (yNilCheck rfl rfl) ?_
    refine seqQ rfl rfl (yFieldAddr rfl Try.underlying71 rfl Try.sizeOf4 rfl rfl) ?_
    refine seqQ rfl rfl (yLoad rfl Try.underlying4 rfl rfl (h1.blk.cell rfl)) ?_
    refine seqNil ?_
    refine hF8 _ _ ?_; clear hF8
    -- if t26
    rcases hc1 with ⟨rfl, hp, hu⟩ | ⟨rfl, a, hp, hv⟩
    · skip
      refine wpT rfl ?_
      refine wpSeq fun F9 hF9 => ?_
      refine wpRegion ?_
      refine seqQ rfl rfl (yMove (v := .pointer _) rfl rfl) ?_
      refine seqQ rfl rfl (yMove (v := .int _ _) rfl rfl) ?_
      refine seqQ rfl rfl (yNilCheck rfl rfl) ?_
      refine seqQ rfl rfl (yFieldAddr rfl Try.underlying71 rfl Try.sizeOf3 rfl rfl) ?_
      -- e slot None: store T3 t30 t28
      refine seqE0 rfl rfl (stepStore rfl Try.sizeOf3 rfl rfl rfl rfl h1.blk (Nat.le_of_ble_eq_true rfl) ?_)
      intro H3 hB3 hK3
      refine seqNil ?_
      refine hF9 _ _ ?_; clear hF9
      refine wpSeq fun F10 hF10 => ?_
      refine wpRegion ?_
      refine seqQ rfl rfl (yMove (v := .slice _ _ _) rfl rfl) ?_
      refine seqQ rfl rfl (yAssign (v := .slice _ _ _) rfl rfl) ?_
      refine seqNil ?_
      refine hF10 _ _ ?_; clear hF10
      -- ret
      refine wpRet (fin1 (v := .slice _ _ _) rfl rfl ?_)
      exact ⟨hK1.trans hK3, .inr ⟨hp, h1.store hB3 hK3 h.le, rfl⟩⟩
    · skip
      refine wpF rfl ?_
      refine wpSkip ?_
      refine hF7 _ _ ?_; clear hF7
      refine wpSeq fun F11 hF11 => ?_
      refine wpRegion ?_
      refine seqQ rfl rfl (yMove (v := .slice _ _ _) rfl rfl) ?_
      refine seqQ rfl rfl (yAssign (v := .slice _ _ _) rfl rfl) ?_
      refine seqNil ?_
      refine hF11 _ _ ?_; clear hF11
      -- ret
      refine wpRet (fin1 (v := .slice _ _ _) rfl rfl ?_)
      exact ⟨hK1, .inl ⟨a, k1, hp, h1, hv⟩⟩
  · skip
    refine wpT rfl ?_
    refine wpSeq fun F12 hF12 => ?_
    refine wpRegion ?_
    refine seqQ rfl rfl (yMove (v := .slice _ _ _) rfl rfl) ?_
    refine seqQ rfl rfl (yAssign (v := .slice _ _ _) rfl rfl) ?_
    refine seqNil ?_
    refine hF12 _ _ ?_; clear hF12
    -- ret
    refine wpRet (fin1 (v := .slice _ _ _) rfl rfl ?_)
    exact ⟨Keep.refl _ _, .inr ⟨rfl, h, rfl⟩⟩
set_option maxRecDepth 100000 in
theorem part_vals {α : Type} {p : List UInt8 → Option (α × List UInt8)} {V : Heap → α → Value → Prop} {U : Heap → Value → Prop} (fid : FuncId) (first cap : List Value) (g : Nat) (B : Option Addr) (cB : Nat) (D : List UInt8) (k : Nat) (f : Bool) (H : Heap) (h : Rdr H g B cB D k f)
    (hf : ∀ (args : Array Value) (w : World), (callFunc fid args).run Try.prog w = .ok (.enter fid args) w) (hread : f = false → CallsH Try.prog fid (first ++ [] ++ cap) H fun v H' => RP p V U g B cB D k false H v H')
    (hV : ∀ H a v, V H a v → ∃ A n c, v = .slice A n c) (hU : ∀ H v, U H v → ∃ A n c, v = .slice A n c) :
    CallsH Try.prog 51 [.pointer (some ⟨g, 0, none⟩), .func (.func fid) first.toArray cap.toArray] H fun v H' => PP p V (.slice none 0 0) g B cB D k f H v H' := by
  refine callsH_of Try.func51 rfl Try.ntmps51 (Nat.le_of_ble_eq_true rfl) ?_
  refine wpSeq fun F1 hF1 => ?_
  refine wpRegion ?_
  refine seqQ rfl rfl (yAssign (v := .slice _ _ _) rfl rfl) ?_
  refine seqNil ?_
  refine hF1 _ _ ?_; clear hF1
  refine wpSeq fun F2 hF2 => ?_
  refine wpRegion ?_
  refine seqQ rfl rfl (yAssign (v := .slice _ _ _) rfl rfl) ?_
  refine seqNil ?_
  refine hF2 _ _ ?_; clear hF2
  refine wpSeq fun F3 hF3 => ?_
  refine wpSeq fun F4 hF4 => ?_
  refine wpRegion ?_
  refine seqQ rfl rfl (yMove (v := .pointer _) rfl rfl) ?_
  refine seqQ rfl rfl (yEqlPN rfl Try.underlying44 rfl rfl) ?_
  refine seqQ rfl rfl (yMove (v := .bool false) rfl rfl) ?_
  refine seqQ rfl rfl (yMove (v := .pointer _) rfl rfl) ?_
  refine seqQ rfl rfl (yNilCheck rfl rfl) ?_
  refine seqQ rfl rfl (yFieldAddr rfl Try.underlying71 rfl Try.sizeOf4 rfl rfl) ?_
  refine seqQ rfl rfl (yLoad rfl Try.underlying4 rfl rfl (h.blk.cell rfl)) ?_
  refine seqQ rfl rfl (yPickF (v := .bool _) rfl rfl rfl) ?_
  refine seqNil ?_
  refine hF4 _ _ ?_; clear hF4
  -- if t15
  cases f
  · skip
    refine wpF rfl ?_
    refine wpSkip ?_
    refine hF3 _ _ ?_; clear hF3
    refine wpSeq fun F5 hF5 => ?_
    refine wpRegion ?_
    refine seqQ rfl rfl (yMove (v := .pointer _) rfl rfl) ?_
    refine seqQ rfl rfl (yNilCheck rfl rfl) ?_
    refine seqQ rfl rfl (yFieldAddr rfl Try.underlying71 rfl Try.sizeOf3 rfl rfl) ?_
    refine seqQ rfl rfl (yLoad rfl Try.underlying3 rfl rfl (h.blk.cell rfl)) ?_
    refine seqQ rfl rfl (yAssign (v := .int _ _) rfl rfl) ?_
    refine seqNil ?_
    refine hF5 _ _ ?_; clear hF5
    refine wpSeq fun F6 hF6 => ?_
    refine wpRegion ?_
    refine seqQ rfl rfl (yMove (v := .func _ _ _) rfl rfl) ?_
    -- e slot 22: callv t21 
    refine seqE rfl rfl (stepCallV (first := first) (cap := cap) rfl hf rfl rfl ?_)
    refine (hread rfl).mono ?_
    rintro v H1 hr
    obtain ⟨hK1, f1, k1, h1, hc1⟩ := hr.flat
    obtain ⟨A, n, c, rfl⟩ : ∃ A n c, v = .slice A n c := by
      rcases hc1 with ⟨_, _, hu⟩ | ⟨_, a, _, hv⟩
      · exact hU _ _ hu
      · exact hV _ _ _ hv
    refine seqQ rfl rfl (yAssign (v := .slice _ _ _) rfl rfl) ?_
    refine seqNil ?_
    refine hF6 _ _ ?_; clear hF6
    refine wpSeq fun F7 hF7 => ?_
    refine wpSeq fun F8 hF8 => ?_
    refine wpRegion ?_
    refine seqQ rfl rfl (yMove (v := .pointer _) rfl rfl) ?_
    refine seqQ rfl rfl (yNilCheck rfl rfl) ?_
    refine seqQ rfl rfl (yFieldAddr rfl Try.underlying71 rfl Try.sizeOf4 rfl rfl) ?_
    refine seqQ rfl rfl (yLoad rfl Try.underlying4 rfl rfl (h1.blk.cell rfl)) ?_
    refine seqNil ?_
    refine hF8 _ _ ?_; clear hF8
    -- if t26
    rcases hc1 with ⟨rfl, hp, hu⟩ | ⟨rfl, a, hp, hv⟩
    · skip
      refine wpT rfl ?_
      refine wpSeq fun F9 hF9 => ?_
      refine wpRegion ?_
      refine seqQ rfl rfl (yMove (v := .pointer _) rfl rfl) ?_
      refine seqQ rfl rfl (yMove (v := .int _ _) rfl rfl) ?_
      refine seqQ rfl rfl (yNilCheck rfl rfl) ?_
      refine seqQ rfl rfl (yFieldAddr rfl Try.underlying71 rfl Try.sizeOf3 rfl rfl) ?_
      -- e slot None: store T3 t30 t28
      refine seqE0 rfl rfl (stepStore rfl Try.sizeOf3 rfl rfl rfl rfl h1.blk (Nat.le_of_ble_eq_true rfl) ?_)
      intro H3 hB3 hK3
      refine seqNil ?_
      refine hF9 _ _ ?_; clear hF9
      refine wpSeq fun F10 hF10 => ?_
      refine wpRegion ?_
      refine seqQ rfl rfl (yMove (v := .slice _ _ _) rfl rfl) ?_
      refine seqQ rfl rfl (yAssign (v := .slice _ _ _) rfl rfl) ?_
      refine seqNil ?_
      refine hF10 _ _ ?_; clear hF10
      -- ret
      refine wpRet (fin1 (v := .slice _ _ _) rfl rfl ?_)
      exact ⟨hK1.trans hK3, .inr ⟨hp, h1.store hB3 hK3 h.le, rfl⟩⟩
    · skip
      refine wpF rfl ?_
      refine wpSkip ?_
      refine hF7 _ _ ?_; clear hF7
      refine wpSeq fun F11 hF11 => ?_
      refine wpRegion ?_
      refine seqQ rfl rfl (yMove (v := .slice _ _ _) rfl rfl) ?_
      refine seqQ rfl rfl (yAssign (v := .slice _ _ _) rfl rfl) ?_
      refine seqNil ?_
      refine hF11 _ _ ?_; clear hF11
      -- ret
      refine wpRet (fin1 (v := .slice _ _ _) rfl rfl ?_)
      exact ⟨hK1, .inl ⟨a, k1, hp, h1, hv⟩⟩
  · skip
    refine wpT rfl ?_
    refine wpSeq fun F12 hF12 => ?_
    refine wpRegion ?_
    refine seqQ rfl rfl (yMove (v := .slice _ _ _) rfl rfl) ?_
    refine seqQ rfl rfl (yAssign (v := .slice _ _ _) rfl rfl) ?_
    refine seqNil ?_
    refine hF12 _ _ ?_; clear hF12
    -- ret
    refine wpRet (fin1 (v := .slice _ _ _) rfl rfl ?_)
    exact ⟨Keep.refl _ _, .inr ⟨rfl, h, rfl⟩⟩

set_option maxRecDepth 100000 in
theorem Int_c (g : Nat) (B : Option Addr) (cB : Nat) (D : List UInt8) (k : Nat) (f : Bool) (H : Heap) (h : Rdr H g B cB D k f) :
    CallsH Try.prog 30 [.pointer (some ⟨g, 0, none⟩)] H fun v H' => PP rdI VI (.int .i64 0) g B cB D k f H v H' := by
  refine callsH_of Try.func30 rfl Try.ntmps30 (Nat.le_of_ble_eq_true rfl) ?_
  refine wpSeq fun F1 hF1 => ?_
  refine wpRegion ?_
  refine seqQ rfl rfl (yAssign (v := .int _ _) rfl rfl) ?_
  refine seqNil ?_
  refine hF1 _ _ ?_; clear hF1
  refine wpSeq fun F2 hF2 => ?_
  refine wpRegion ?_
  refine seqQ rfl rfl (yMove (v := .pointer _) rfl rfl) ?_
  refine seqQ rfl rfl (yMove (v := .pointer _) rfl rfl) ?_
  refine seqQ rfl rfl (yMakeFunc (first := [.tmp 4]) (captured := []) (vs := [.pointer _]) (us := []) rfl rfl rfl) ?_
  -- e slot 6: call F41<farandole/wire.part[int]> t3 t5
  refine seqE rfl rfl (stepCall rfl Try.call41 rfl ?_)
  refine (part_int (p := rdI) (V := VI) (U := UI) 40 [.pointer (some ⟨g, 0, none⟩)] [] g B cB D k f H h Try.call40 (fun hf => hf ▸ integer_c g B cB D k f H h) (fun _ _ _ h => ⟨_, h.1⟩) (fun _ _ h => h)).mono ?_
  rintro v H1 hr
  obtain ⟨z, rfl⟩ : ∃ z, v = .int .i64 z := by
    rcases hr.2 with ⟨a, _, _, _, rfl, _⟩ | ⟨_, _, rfl⟩
    · exact ⟨_, rfl⟩
    · exact ⟨_, rfl⟩
  refine seqQ rfl rfl (yAssign (v := .int _ _) rfl rfl) ?_
  refine seqNil ?_
  refine hF2 _ _ ?_; clear hF2
  -- ret
  refine wpRet (fin1 (v := .int _ _) rfl rfl ?_)
  exact hr
set_option maxRecDepth 100000 in
theorem Bool_c (g : Nat) (B : Option Addr) (cB : Nat) (D : List UInt8) (k : Nat) (f : Bool) (H : Heap) (h : Rdr H g B cB D k f) :
    CallsH Try.prog 25 [.pointer (some ⟨g, 0, none⟩)] H fun v H' => PP pBool VBo (.bool false) g B cB D k f H v H' := by
  refine callsH_of Try.func25 rfl Try.ntmps25 (Nat.le_of_ble_eq_true rfl) ?_
  refine wpSeq fun F1 hF1 => ?_
  refine wpRegion ?_
  refine seqQ rfl rfl (yAssign (v := .bool _) rfl rfl) ?_
  refine seqNil ?_
  refine hF1 _ _ ?_; clear hF1
  refine wpSeq fun F2 hF2 => ?_
  refine wpRegion ?_
  refine seqQ rfl rfl (yMove (v := .pointer _) rfl rfl) ?_
  refine seqQ rfl rfl (yMove (v := .pointer _) rfl rfl) ?_
  refine seqQ rfl rfl (yMakeFunc (first := [.tmp 4]) (captured := []) (vs := [.pointer _]) (us := []) rfl rfl rfl) ?_
  -- e slot 6: call F44<farandole/wire.part[bool]> t3 t5
  refine seqE rfl rfl (stepCall rfl Try.call44 rfl ?_)
  refine (part_bool (p := pBool) (V := VBo) (U := UBo) 45 [.pointer (some ⟨g, 0, none⟩)] [] g B cB D k f H h Try.call45 (fun hf => hf ▸ boolean_c g B cB D k f H h) (fun _ _ _ h => ⟨_, h⟩) (fun _ _ h => h)).mono ?_
  rintro v H1 hr
  obtain ⟨z, rfl⟩ : ∃ z, v = .bool z := by
    rcases hr.2 with ⟨a, _, _, _, rfl⟩ | ⟨_, _, rfl⟩
    · exact ⟨_, rfl⟩
    · exact ⟨_, rfl⟩
  refine seqQ rfl rfl (yAssign (v := .bool _) rfl rfl) ?_
  refine seqNil ?_
  refine hF2 _ _ ?_; clear hF2
  -- ret
  refine wpRet (fin1 (v := .bool _) rfl rfl ?_)
  exact hr

set_option maxRecDepth 100000 in
theorem Bnd1_c (g b3 b4 b5 : Nat) (T3 T4 T5 : TypeId) (B : Option Addr) (cB : Nat) (D : List UInt8) (k : Nat) (lo hi : Int) (H : Heap) (h : Rdr H g B cB D k false) (h3 : Blk H b3 [.pointer (some ⟨g, 0, none⟩)] T3) (h4 : Blk H b4 [.int .i64 lo] T4) (h5 : Blk H b5 [.int .i64 hi] T5) :
    CallsH Try.prog 42 [.pointer (some ⟨b3, 0, none⟩), .pointer (some ⟨b4, 0, none⟩), .pointer (some ⟨b5, 0, none⟩)] H fun v H' => RP (pBnd lo hi) (VB lo hi) UI g B cB D k false H v H' := by
  refine callsH_of Try.func42 rfl Try.ntmps42 (Nat.le_of_ble_eq_true rfl) ?_
  refine wpSeq fun F1 hF1 => ?_
  refine wpRegion ?_
  refine seqQ rfl rfl (yAssign (v := .int _ _) rfl rfl) ?_
  refine seqNil ?_
  refine hF1 _ _ ?_; clear hF1
  refine wpSeq fun F2 hF2 => ?_
  refine wpRegion ?_
  refine seqQ rfl rfl (yLoad rfl Try.underlying44 rfl rfl (h3.cell (j := 0) rfl)) ?_
  refine seqQ rfl rfl (yLoad rfl Try.underlying3 rfl rfl (h4.cell (j := 0) rfl)) ?_
  refine seqQ rfl rfl (yLoad rfl Try.underlying3 rfl rfl (h5.cell (j := 0) rfl)) ?_
  -- e slot 7: call F43<(*farandole/wire.Reader).bounded> t4 t5 t6
  refine seqE rfl rfl (stepCall rfl Try.call43 rfl ?_)
  refine (bounded_c g B cB D k false lo hi H h).mono ?_
  rintro v H1 hr
  obtain ⟨z, rfl⟩ : ∃ z, v = .int .i64 z := by
    rcases hr.2 with ⟨a, _, _, _, _, _, rfl, _⟩ | ⟨_, _, z, rfl⟩
    · exact ⟨_, rfl⟩
    · exact ⟨_, rfl⟩
  refine seqQ rfl rfl (yAssign (v := .int _ _) rfl rfl) ?_
  refine seqNil ?_
  refine hF2 _ _ ?_; clear hF2
  -- ret
  refine wpRet (fin1 (v := .int _ _) rfl rfl ?_)
  exact hr
set_option maxRecDepth 100000 in
theorem PP.from {α : Type} {p : List UInt8 → Option (α × List UInt8)} {V : Heap → α → Value → Prop} {Z : Value} {g : Nat} {B : Option Addr} {cB : Nat} {D : List UInt8} {k : Nat} {f : Bool} {H H1 : Heap} {v : Value} {H' : Heap} (h : PP p V Z g B cB D k f H1 v H') (hx : Ext H H1) : PP p V Z g B cB D k f H v H' := ⟨(hx.keep _).trans h.1, h.2⟩
set_option maxRecDepth 100000 in
theorem PP.mono {α : Type} {p : List UInt8 → Option (α × List UInt8)} {V V' : Heap → α → Value → Prop} {Z : Value} {g : Nat} {B : Option Addr} {cB : Nat} {D : List UInt8} {k : Nat} {f : Bool} {H : Heap} {v : Value} {H' : Heap} (h : PP p V Z g B cB D k f H v H') (hv : ∀ H a v, V H a v → V' H a v) : PP p V' Z g B cB D k f H v H' :=
  ⟨h.1, h.2.imp (fun ⟨a, k', h1, h2, h3⟩ => ⟨a, k', h1, h2, hv _ _ _ h3⟩) id⟩
set_option maxRecDepth 100000 in
theorem Bounded_c (g : Nat) (B : Option Addr) (cB : Nat) (D : List UInt8) (k : Nat) (f : Bool) (lo hi : Int) (H : Heap) (h : Rdr H g B cB D k f) :
    CallsH Try.prog 24 [.pointer (some ⟨g, 0, none⟩), .int .i64 lo, .int .i64 hi] H fun v H' => PP (pBnd lo hi) (VB lo hi) (.int .i64 0) g B cB D k f H v H' := by
  refine callsH_of Try.func24 rfl Try.ntmps24 (Nat.le_of_ble_eq_true rfl) ?_
  refine wpSeq fun F1 hF1 => ?_
  refine wpRegion ?_
  refine seqN rfl rfl (nBox (v := .pointer _) rfl rfl rfl) (fun g3 H3 hx3 hB3 hg3 hl3 => ?_)
  refine seqN rfl rfl (nBox (v := .int _ _) rfl rfl rfl) (fun g4 H4 hx4 hB4 hg4 hl4 => ?_)
  refine seqN rfl rfl (nBox (v := .int _ _) rfl rfl rfl) (fun g5 H5 hx5 hB5 hg5 hl5 => ?_)
  refine seqQ rfl rfl (yAssign (v := .int _ _) rfl rfl) ?_
  refine seqNil ?_
  refine hF1 _ _ ?_; clear hF1
  refine wpSeq fun F2 hF2 => ?_
  refine wpRegion ?_
  refine seqQ rfl rfl (yLoad rfl Try.underlying44 rfl rfl (((hB3.ext hx4).ext hx5).cell (j := 0) rfl)) ?_
  refine seqQ rfl rfl (yMakeFunc (first := []) (captured := [.tmp 3, .tmp 4, .tmp 5]) (vs := []) (us := [.pointer _, .pointer _, .pointer _]) rfl rfl rfl) ?_
  -- e slot 9: call F41<farandole/wire.part[int]> t7 t8
  refine seqE rfl rfl (stepCall rfl Try.call41 rfl ?_)
  have hx := (hx3.trans hx4).trans hx5
  refine (part_int (p := pBnd lo hi) (V := VB lo hi) (U := UI) 42 [] [.pointer (some ⟨g3, 0, none⟩), .pointer (some ⟨g4, 0, none⟩), .pointer (some ⟨g5, 0, none⟩)] g B cB D k f H5 (h.ext hx) Try.call42 (fun hf => by
    subst hf
    exact Bnd1_c g g3 g4 g5 _ _ _ B cB D k lo hi H5 (h.ext hx) ((hB3.ext hx4).ext hx5) (hB4.ext hx5) hB5) (fun _ _ _ h => ⟨_, h.1⟩) (fun _ _ h => h)).mono ?_
  rintro v H1 hr
  obtain ⟨z, rfl⟩ : ∃ z, v = .int .i64 z := by
    rcases hr.2 with ⟨a, _, _, _, rfl, _⟩ | ⟨_, _, rfl⟩
    · exact ⟨_, rfl⟩
    · exact ⟨_, rfl⟩
  refine seqQ rfl rfl (yAssign (v := .int _ _) rfl rfl) ?_
  refine seqNil ?_
  refine hF2 _ _ ?_; clear hF2
  -- ret
  refine wpRet (fin1 (v := .int _ _) rfl rfl ?_)
  exact hr.from hx
def VO (b0 : Nat) (H : Heap) (b : List UInt8) (v : Value) : Prop := Own eByte 5 H b0 v b
set_option maxRecDepth 100000 in
theorem Own.shape {α : Type} {c : El α} {e : TypeId} {H : Heap} {b : Nat} {v : Value} {l : List α} (h : Own c e H b v l) : ∃ A n c, v = .slice A n c := by obtain ⟨A, c, rfl, -⟩ := h.form; exact ⟨_, _, _, rfl⟩
set_option maxRecDepth 100000 in
theorem pBytes_lt {m : Int} {b x r : List UInt8} (h : pBytes m b = some (x, r)) : x.length ≤ b.length := by
  unfold pBytes pBnd at h
  cases hq : rdI b with
  | none => rw [hq] at h; cases h
  | some y =>
    rw [hq] at h
    simp only [Option.bind_some] at h
    by_cases hy : 0 ≤ y.1 ∧ y.1 ≤ m
    · rw [if_pos hy] at h
      simp only [Option.bind_some] at h
      split at h
      · rename_i hl
        simp only [Option.some.injEq, Prod.mk.injEq] at h
        have hc := congrArg List.length (rdI_canon (n := y.1) (r := y.2) hq).1
        rw [List.length_append] at hc
        rw [← h.1, List.length_take]
        omega
      · cases h
    · rw [if_neg hy] at h; cases h
set_option maxRecDepth 100000 in
theorem Byt1_c (g b2 b3 : Nat) (T2 T3 : TypeId) (B : Option Addr) (cB : Nat) (D : List UInt8) (k : Nat) (most : Int) (H : Heap) (h : Rdr H g B cB D k false) (h2 : Blk H b2 [.pointer (some ⟨g, 0, none⟩)] T2) (h3 : Blk H b3 [.int .i64 most] T3) (hm : most ≤ 1000000000) :
    CallsH Try.prog 47 [.pointer (some ⟨b2, 0, none⟩), .pointer (some ⟨b3, 0, none⟩)] H fun v H' => RP (pBytes most) (VO H.size) UL g B cB D k false H v H' := by
  refine callsH_of Try.func47 rfl Try.ntmps47 (Nat.le_of_ble_eq_true rfl) ?_
  refine wpSeq fun F1 hF1 => ?_
  refine wpRegion ?_
  refine seqQ rfl rfl (yAssign (v := .slice _ _ _) rfl rfl) ?_
  refine seqNil ?_
  refine hF1 _ _ ?_; clear hF1
  refine wpSeq fun F2 hF2 => ?_
  refine wpRegion ?_
  refine seqQ rfl rfl (yLoad rfl Try.underlying44 rfl rfl (h2.cell (j := 0) rfl)) ?_
  refine seqQ rfl rfl (yLoad rfl Try.underlying3 rfl rfl (h3.cell (j := 0) rfl)) ?_
  -- e slot 5: call F48<(*farandole/wire.Reader).bytes> t3 t4
  refine seqE rfl rfl (stepCall rfl Try.call48 rfl ?_)
  refine (bytesR_c g B cB D k false most H h hm).mono ?_
  rintro v H1 hr
  obtain ⟨hK1, f1, k1, h1, hc1⟩ := hr.flat
  obtain ⟨A, c, bs, rfl, hA, hd1⟩ : ∃ A c bs, v = .slice A (List.length (α := UInt8) bs) c ∧ Rd eByte H1 A bs ∧ ((f1 = true ∧ bs = [] ∧ prs (pBytes most) false D k = none) ∨ (f1 = false ∧ prs (pBytes most) false D k = some (bs, D.drop k1))) := by
    rcases hc1 with ⟨h, h', rfl⟩ | ⟨h, a, h', A, c, rfl, hA⟩
    · exact ⟨none, 0, [], rfl, Rd.nil _ _, .inl ⟨h, rfl, h'⟩⟩
    · exact ⟨A, c, a, rfl, hA.rd, .inr ⟨h, h'⟩⟩
  have hfew := h.few
  have hbl : bs.length ≤ 1000000 := by
    rcases hd1 with ⟨_, rfl, _⟩ | ⟨_, hp⟩
    · simp
    · have := pBytes_lt hp
      rw [List.length_drop] at this
      omega
  have lg := h.blk.lt
  have s1 := hK1.size
  -- e slot 6: builtin append [nilslice:0:0] t5 : [29, 29]
  refine seqE rfl rfl (stepApp (c := eByte) (Own.nil _ H1.size) rfl Try.underlying29 elem_eByte rfl (by omega) rfl rfl rfl hA (by simp; omega) (Nat.le_refl _) ?_)
  intro v' H2 ho hg
  rw [List.nil_append] at ho
  have hK2 : Keep [g] H H2 := hK1.trans ((hg.1 : Keep _ _ _).mono (by simp [Value.ownBlock]))
  have h2' : Rdr H2 g B cB D k1 f1 := h1.ext (Keep.ext hg.1)
  obtain ⟨A2, c2, rfl, -⟩ := ho.form
  refine seqQ rfl rfl (yAssign (v := .slice _ _ _) rfl rfl) ?_
  refine seqNil ?_
  refine hF2 _ _ ?_; clear hF2
  -- ret
  refine wpRet (fin1 (v := .slice _ _ _) rfl rfl ?_)
  rcases hd1 with ⟨rfl, rfl, hp⟩ | ⟨rfl, hp⟩
  · exact RP.fail hK2 hp h2' ⟨_, _, _, rfl⟩
  · exact RP.good hK2 hp h2' (ho.mono s1)
set_option maxRecDepth 100000 in
theorem Bytes_c (g : Nat) (B : Option Addr) (cB : Nat) (D : List UInt8) (k : Nat) (f : Bool) (most : Int) (H : Heap) (h : Rdr H g B cB D k f) (hm : most ≤ 1000000000) :
    CallsH Try.prog 27 [.pointer (some ⟨g, 0, none⟩), .int .i64 most] H fun v H' => PP (pBytes most) (VO H.size) (.slice none 0 0) g B cB D k f H v H' := by
  refine callsH_of Try.func27 rfl Try.ntmps27 (Nat.le_of_ble_eq_true rfl) ?_
  refine wpSeq fun F1 hF1 => ?_
  refine wpRegion ?_
  refine seqN rfl rfl (nBox (v := .pointer _) rfl rfl rfl) (fun g2 H2 hx2 hB2 hg2 hl2 => ?_)
  refine seqN rfl rfl (nBox (v := .int _ _) rfl rfl rfl) (fun g3 H3 hx3 hB3 hg3 hl3 => ?_)
  refine seqQ rfl rfl (yAssign (v := .slice _ _ _) rfl rfl) ?_
  refine seqNil ?_
  refine hF1 _ _ ?_; clear hF1
  refine wpSeq fun F2 hF2 => ?_
  refine wpRegion ?_
  refine seqQ rfl rfl (yLoad rfl Try.underlying44 rfl rfl ((hB2.ext hx3).cell (j := 0) rfl)) ?_
  refine seqQ rfl rfl (yMakeFunc (first := []) (captured := [.tmp 2, .tmp 3]) (vs := []) (us := [.pointer _, .pointer _]) rfl rfl rfl) ?_
  -- e slot 7: call F46<farandole/wire.part[[]byte]> t5 t6
  refine seqE rfl rfl (stepCall rfl Try.call46 rfl ?_)
  have hx := hx2.trans hx3
  refine (part_bytes (p := pBytes most) (V := VO H3.size) (U := UL) 47 [] [.pointer (some ⟨g2, 0, none⟩), .pointer (some ⟨g3, 0, none⟩)] g B cB D k f H3 (h.ext hx) Try.call47 (fun hf => by
    subst hf
    exact Byt1_c g g2 g3 _ _ B cB D k most H3 (h.ext hx) (hB2.ext hx3) hB3 hm) (fun _ _ _ h => h.shape) (fun _ _ h => h)).mono ?_
  rintro v H1 hr
  obtain ⟨A, n, c, rfl⟩ : ∃ A n c, v = .slice A n c := by
    rcases hr.2 with ⟨a, _, _, _, h⟩ | ⟨_, _, rfl⟩
    · exact h.shape
    · exact ⟨_, _, _, rfl⟩
  refine seqQ rfl rfl (yAssign (v := .slice _ _ _) rfl rfl) ?_
  refine seqNil ?_
  refine hF2 _ _ ?_; clear hF2
  -- ret
  refine wpRet (fin1 (v := .slice _ _ _) rfl rfl ?_)
  exact (hr.from hx).mono (fun _ _ _ h => Own.mono h hx.size)
def VT (_ : Heap) (b : List UInt8) (v : Value) : Prop := v = .string ⟨b.toArray⟩
set_option maxRecDepth 100000 in
theorem Text_c (g : Nat) (B : Option Addr) (cB : Nat) (D : List UInt8) (k : Nat) (f : Bool) (most : Int) (H : Heap) (h : Rdr H g B cB D k f) (hm : most ≤ 1000000000) :
    CallsH Try.prog 26 [.pointer (some ⟨g, 0, none⟩), .int .i64 most] H fun v H' => PP (pBytes most) VT (.string ⟨#[]⟩) g B cB D k f H v H' := by
  refine callsH_of Try.func26 rfl Try.ntmps26 (Nat.le_of_ble_eq_true rfl) ?_
  refine wpSeq fun F1 hF1 => ?_
  refine wpRegion ?_
  refine seqQ rfl rfl (yAssign (v := .string _) rfl rfl) ?_
  refine seqNil ?_
  refine hF1 _ _ ?_; clear hF1
  refine wpSeq fun F2 hF2 => ?_
  refine wpRegion ?_
  refine seqQ rfl rfl (yMove (v := .pointer _) rfl rfl) ?_
  refine seqQ rfl rfl (yMove (v := .int _ _) rfl rfl) ?_
  -- e slot 7: call F27<(*farandole/wire.Reader).Bytes> t5 t6
  refine seqE rfl rfl (stepCall rfl Try.call27 rfl ?_)
  refine (Bytes_c g B cB D k f most H h hm).mono ?_
  rintro v H1 ⟨hK, hc⟩
  obtain ⟨A, c, bs, rfl, hA, hd⟩ : ∃ A c bs, v = .slice A (List.length (α := UInt8) bs) c ∧ Rd eByte H1 A bs ∧ ((∃ k', prs (pBytes most) f D k = some (bs, D.drop k') ∧ Rdr H1 g B cB D k' false) ∨ (prs (pBytes most) f D k = none ∧ Rdr H1 g B cB D k true ∧ bs = [])) := by
    rcases hc with ⟨a, k', h1, h2, h3⟩ | ⟨h1, h2, rfl⟩
    · obtain ⟨A, c, rfl, -, hr, -⟩ := Own.form h3
      exact ⟨A, c, a, rfl, hr, .inl ⟨k', h1, h2⟩⟩
    · exact ⟨none, 0, [], rfl, Rd.nil _ _, .inr ⟨h1, h2, rfl⟩⟩
  refine seqQ rfl rfl (yBytesStr rfl Try.underlying29 Try.underlying9 Try.underlying5 rfl rfl hA) ?_
  refine seqQ rfl rfl (yAssign (v := .string _) rfl rfl) ?_
  refine seqNil ?_
  refine hF2 _ _ ?_; clear hF2
  -- ret
  refine wpRet (fin1 (v := .string _) rfl rfl ?_)
  rcases hd with ⟨k', h1, h2⟩ | ⟨h1, h2, rfl⟩
  · exact ⟨hK, .inl ⟨bs, k', h1, h2, rfl⟩⟩
  · exact ⟨hK, .inr ⟨h1, h2, rfl⟩⟩
set_option maxRecDepth 100000 in
theorem Ints1_c (g b2 b3 : Nat) (T2 T3 : TypeId) (B : Option Addr) (cB : Nat) (D : List UInt8) (k : Nat) (most : Int) (H : Heap) (h : Rdr H g B cB D k false) (h2 : Blk H b2 [.pointer (some ⟨g, 0, none⟩)] T2) (h3 : Blk H b3 [.int .i64 most] T3) (hm : most ≤ 1000000) :
    CallsH Try.prog 38 [.pointer (some ⟨b2, 0, none⟩), .pointer (some ⟨b3, 0, none⟩)] H fun v H' => RP (pList rdI most) (VL eInt 3 H.size P64) UL g B cB D k false H v H' := by
  refine callsH_of Try.func38 rfl Try.ntmps38 (Nat.le_of_ble_eq_true rfl) ?_
  refine wpSeq fun F1 hF1 => ?_
  refine wpRegion ?_
  refine seqQ rfl rfl (yAssign (v := .slice _ _ _) rfl rfl) ?_
  refine seqNil ?_
  refine hF1 _ _ ?_; clear hF1
  refine wpSeq fun F2 hF2 => ?_
  refine wpRegion ?_
  refine seqQ rfl rfl (yLoad rfl Try.underlying44 rfl rfl (h2.cell (j := 0) rfl)) ?_
  refine seqQ rfl rfl (yLoad rfl Try.underlying3 rfl rfl (h3.cell (j := 0) rfl)) ?_
  refine seqQ rfl rfl (yLoad rfl Try.underlying44 rfl rfl (h2.cell (j := 0) rfl)) ?_
  refine seqQ rfl rfl (yMakeFunc (first := [.tmp 5]) (captured := []) (vs := [.pointer _]) (us := []) rfl rfl rfl) ?_
  -- e slot 7: call F39<farandole/wire.list[int]> t3 t4 t6
  refine seqE rfl rfl (stepCall rfl Try.call39 rfl ?_)
  refine (listI_r g B cB D k false most H h hm).mono ?_
  rintro v H1 hr
  obtain ⟨A, n, c, rfl⟩ : ∃ A n c, v = .slice A n c := by
    rcases hr.2 with ⟨a, _, _, _, _, _, h, _⟩ | ⟨_, _, h⟩
    · exact h.shape
    · exact h
  refine seqQ rfl rfl (yAssign (v := .slice _ _ _) rfl rfl) ?_
  refine seqNil ?_
  refine hF2 _ _ ?_; clear hF2
  -- ret
  refine wpRet (fin1 (v := .slice _ _ _) rfl rfl ?_)
  exact hr
set_option maxRecDepth 100000 in
theorem Ints_c (g : Nat) (B : Option Addr) (cB : Nat) (D : List UInt8) (k : Nat) (f : Bool) (most : Int) (H : Heap) (h : Rdr H g B cB D k f) (hm : most ≤ 1000000) :
    CallsH Try.prog 23 [.pointer (some ⟨g, 0, none⟩), .int .i64 most] H fun v H' => PP (pList rdI most) (VL eInt 3 H.size P64) (.slice none 0 0) g B cB D k f H v H' := by
  refine callsH_of Try.func23 rfl Try.ntmps23 (Nat.le_of_ble_eq_true rfl) ?_
  refine wpSeq fun F1 hF1 => ?_
  refine wpRegion ?_
  refine seqN rfl rfl (nBox (v := .pointer _) rfl rfl rfl) (fun g2 H2 hx2 hB2 hg2 hl2 => ?_)
  refine seqN rfl rfl (nBox (v := .int _ _) rfl rfl rfl) (fun g3 H3 hx3 hB3 hg3 hl3 => ?_)
  refine seqQ rfl rfl (yAssign (v := .slice _ _ _) rfl rfl) ?_
  refine seqNil ?_
  refine hF1 _ _ ?_; clear hF1
  refine wpSeq fun F2 hF2 => ?_
  refine wpRegion ?_
  refine seqQ rfl rfl (yLoad rfl Try.underlying44 rfl rfl ((hB2.ext hx3).cell (j := 0) rfl)) ?_
  refine seqQ rfl rfl (yMakeFunc (first := []) (captured := [.tmp 2, .tmp 3]) (vs := []) (us := [.pointer _, .pointer _]) rfl rfl rfl) ?_
  -- e slot 7: call F37<farandole/wire.part[[]int]> t5 t6
  refine seqE rfl rfl (stepCall rfl Try.call37 rfl ?_)
  have hx := hx2.trans hx3
  refine (part_ints (p := pList rdI most) (V := VL eInt 3 H3.size P64) (U := UL) 38 [] [.pointer (some ⟨g2, 0, none⟩), .pointer (some ⟨g3, 0, none⟩)] g B cB D k f H3 (h.ext hx) Try.call38 (fun hf => by
    subst hf
    exact Ints1_c g g2 g3 _ _ B cB D k most H3 (h.ext hx) (hB2.ext hx3) hB3 hm) (fun _ _ _ h => h.1.shape) (fun _ _ h => h)).mono ?_
  rintro v H1 hr
  obtain ⟨A, n, c, rfl⟩ : ∃ A n c, v = .slice A n c := by
    rcases hr.2 with ⟨a, _, _, _, h, _⟩ | ⟨_, _, rfl⟩
    · exact h.shape
    · exact ⟨_, _, _, rfl⟩
  refine seqQ rfl rfl (yAssign (v := .slice _ _ _) rfl rfl) ?_
  refine seqNil ?_
  refine hF2 _ _ ?_; clear hF2
  -- ret
  refine wpRet (fin1 (v := .slice _ _ _) rfl rfl ?_)
  exact (hr.from hx).mono (fun _ _ _ h => ⟨Own.mono h.1 hx.size, h.2⟩)
set_option maxRecDepth 100000 in
theorem Values1_c (g b2 b3 : Nat) (T2 T3 : TypeId) (B : Option Addr) (cB : Nat) (D : List UInt8) (k : Nat) (most : Int) (H : Heap) (h : Rdr H g B cB D k false) (h2 : Blk H b2 [.pointer (some ⟨g, 0, none⟩)] T2) (h3 : Blk H b3 [.int .i64 most] T3) (hm : most ≤ 1000000) :
    CallsH Try.prog 52 [.pointer (some ⟨b2, 0, none⟩), .pointer (some ⟨b3, 0, none⟩)] H fun v H' => RP (pList pVal most) (VL eWV 34 H.size OkW) UL g B cB D k false H v H' := by
  refine callsH_of Try.func52 rfl Try.ntmps52 (Nat.le_of_ble_eq_true rfl) ?_
  refine wpSeq fun F1 hF1 => ?_
  refine wpRegion ?_
  refine seqQ rfl rfl (yAssign (v := .slice _ _ _) rfl rfl) ?_
  refine seqNil ?_
  refine hF1 _ _ ?_; clear hF1
  refine wpSeq fun F2 hF2 => ?_
  refine wpRegion ?_
  refine seqQ rfl rfl (yLoad rfl Try.underlying44 rfl rfl (h2.cell (j := 0) rfl)) ?_
  refine seqQ rfl rfl (yLoad rfl Try.underlying3 rfl rfl (h3.cell (j := 0) rfl)) ?_
  refine seqQ rfl rfl (yLoad rfl Try.underlying44 rfl rfl (h2.cell (j := 0) rfl)) ?_
  refine seqQ rfl rfl (yMakeFunc (first := [.tmp 5]) (captured := []) (vs := [.pointer _]) (us := []) rfl rfl rfl) ?_
  -- e slot 7: call F53<farandole/wire.list[farandole/api.Value]> t3 t4 t6
  refine seqE rfl rfl (stepCall rfl Try.call53 rfl ?_)
  refine (listV_r g B cB D k false most H h hm).mono ?_
  rintro v H1 hr
  obtain ⟨A, n, c, rfl⟩ : ∃ A n c, v = .slice A n c := by
    rcases hr.2 with ⟨a, _, _, _, _, _, h, _⟩ | ⟨_, _, h⟩
    · exact h.shape
    · exact h
  refine seqQ rfl rfl (yAssign (v := .slice _ _ _) rfl rfl) ?_
  refine seqNil ?_
  refine hF2 _ _ ?_; clear hF2
  -- ret
  refine wpRet (fin1 (v := .slice _ _ _) rfl rfl ?_)
  exact hr
set_option maxRecDepth 100000 in
theorem Values_c (g : Nat) (B : Option Addr) (cB : Nat) (D : List UInt8) (k : Nat) (f : Bool) (most : Int) (H : Heap) (h : Rdr H g B cB D k f) (hm : most ≤ 1000000) :
    CallsH Try.prog 32 [.pointer (some ⟨g, 0, none⟩), .int .i64 most] H fun v H' => PP (pList pVal most) (VL eWV 34 H.size OkW) (.slice none 0 0) g B cB D k f H v H' := by
  refine callsH_of Try.func32 rfl Try.ntmps32 (Nat.le_of_ble_eq_true rfl) ?_
  refine wpSeq fun F1 hF1 => ?_
  refine wpRegion ?_
  refine seqN rfl rfl (nBox (v := .pointer _) rfl rfl rfl) (fun g2 H2 hx2 hB2 hg2 hl2 => ?_)
  refine seqN rfl rfl (nBox (v := .int _ _) rfl rfl rfl) (fun g3 H3 hx3 hB3 hg3 hl3 => ?_)
  refine seqQ rfl rfl (yAssign (v := .slice _ _ _) rfl rfl) ?_
  refine seqNil ?_
  refine hF1 _ _ ?_; clear hF1
  refine wpSeq fun F2 hF2 => ?_
  refine wpRegion ?_
  refine seqQ rfl rfl (yLoad rfl Try.underlying44 rfl rfl ((hB2.ext hx3).cell (j := 0) rfl)) ?_
  refine seqQ rfl rfl (yMakeFunc (first := []) (captured := [.tmp 2, .tmp 3]) (vs := []) (us := [.pointer _, .pointer _]) rfl rfl rfl) ?_
  -- e slot 7: call F51<farandole/wire.part[[]farandole/api.Value]> t5 t6
  refine seqE rfl rfl (stepCall rfl Try.call51 rfl ?_)
  have hx := hx2.trans hx3
  refine (part_vals (p := pList pVal most) (V := VL eWV 34 H3.size OkW) (U := UL) 52 [] [.pointer (some ⟨g2, 0, none⟩), .pointer (some ⟨g3, 0, none⟩)] g B cB D k f H3 (h.ext hx) Try.call52 (fun hf => by
    subst hf
    exact Values1_c g g2 g3 _ _ B cB D k most H3 (h.ext hx) (hB2.ext hx3) hB3 hm) (fun _ _ _ h => h.1.shape) (fun _ _ h => h)).mono ?_
  rintro v H1 hr
  obtain ⟨A, n, c, rfl⟩ : ∃ A n c, v = .slice A n c := by
    rcases hr.2 with ⟨a, _, _, _, h, _⟩ | ⟨_, _, rfl⟩
    · exact h.shape
    · exact ⟨_, _, _, rfl⟩
  refine seqQ rfl rfl (yAssign (v := .slice _ _ _) rfl rfl) ?_
  refine seqNil ?_
  refine hF2 _ _ ?_; clear hF2
  -- ret
  refine wpRet (fin1 (v := .slice _ _ _) rfl rfl ?_)
  exact (hr.from hx).mono (fun _ _ _ h => ⟨Own.mono h.1 hx.size, h.2⟩)

set_option maxRecDepth 100000 in
theorem New_c (A : Option Addr) (ca : Nat) (x : List UInt8) (H : Heap) (hA : Rd eByte H A x) (hl : x.length ≤ 1000000) :
    CallsH Try.prog 20 [.slice A x.length ca] H fun v H' => Ext H H' ∧ ∃ g B cB, v = .pointer (some ⟨g, 0, none⟩) ∧ H.size ≤ g ∧ Rdr H' g B cB x 0 false ∧ (∀ p, B = some p → H.size ≤ p.block) := by
  refine callsH_of Try.func20 rfl Try.ntmps20 (Nat.le_of_ble_eq_true rfl) ?_
  refine wpSeq fun F1 hF1 => ?_
  refine wpRegion ?_
  refine seqQ rfl rfl (yAssign (v := .pointer _) rfl rfl) ?_
  refine seqNil ?_
  refine hF1 _ _ ?_; clear hF1
  refine wpSeq fun F2 hF2 => ?_
  refine wpRegion ?_
  refine seqQ rfl rfl (yMove (v := .slice _ _ _) rfl rfl) ?_
  -- e slot 4: builtin append [nilslice:0:0] t3 : [29, 29]
  refine seqE rfl rfl (stepApp (c := eByte) (Own.nil _ H.size) rfl Try.underlying29 elem_eByte rfl (by omega) rfl rfl rfl hA (by simp; omega) (Nat.le_refl _) ?_)
  intro v' H1 ho hg
  rw [List.nil_append] at ho
  have hx1 : Ext H H1 := Keep.ext hg.1
  obtain ⟨B, cB, rfl, hc, hr, hb⟩ := ho.form
  refine seqQ rfl rfl (yBuild (pl := [(0, 1), (1, 1), (2, 1)]) (vs := [(0, .slice _ _ _)]) rfl Try.underlying71 Try.zeroValue71 rfl (by unfold Places; kernel_rfl) rfl rfl) ?_
  refine seqN rfl rfl (nBoxA rfl rfl) (fun g6 H6 hx6 hB6 hg6 hl6 => ?_)
  refine seqQ rfl rfl (yAssign (v := .pointer _) rfl rfl) ?_
  refine seqNil ?_
  refine hF2 _ _ ?_; clear hF2
  -- ret
  refine wpRet (fin1 (v := .pointer _) rfl rfl ?_)
  refine ⟨hx1.trans hx6, g6, B, cB, rfl, by have := hx1.size; omega, ⟨hB6, RdM.of (hr.ext hx6) (fun p e hm => by have := (hb p e).2.1; simp at hm; omega), Nat.zero_le _, hc, hl⟩, fun p e => (hb p e).1⟩
set_option maxRecDepth 100000 in
theorem Left_c (g : Nat) (B : Option Addr) (cB : Nat) (D : List UInt8) (k : Nat) (f : Bool) (H : Heap) (h : Rdr H g B cB D k f) :
    CallsH Try.prog 28 [.pointer (some ⟨g, 0, none⟩)] H fun v H' => v = .int .i64 ((D.length : Int) - (k : Int)) ∧ H' = H := by
  have hfew := h.few
  have hle := h.le
  refine callsH_of Try.func28 rfl Try.ntmps28 (Nat.le_of_ble_eq_true rfl) ?_
  refine wpSeq fun F1 hF1 => ?_
  refine wpRegion ?_
  refine seqQ rfl rfl (yAssign (v := .int _ _) rfl rfl) ?_
  refine seqNil ?_
  refine hF1 _ _ ?_; clear hF1
  refine wpSeq fun F2 hF2 => ?_
  refine wpSeq fun F3 hF3 => ?_
  refine wpRegion ?_
  refine seqQ rfl rfl (yMove (v := .pointer _) rfl rfl) ?_
  refine seqQ rfl rfl (yEqlPN rfl Try.underlying44 rfl rfl) ?_
  refine seqNil ?_
  refine hF3 _ _ ?_; clear hF3
  -- if t4
  refine wpF rfl ?_
  refine wpSkip ?_
  refine hF2 _ _ ?_; clear hF2
  refine wpSeq fun F4 hF4 => ?_
  refine wpRegionD Try_mixed [.q, .q, .q, .q, .q, .q, .q, .q, .q, .q, .q] 9 [0, 1, 3, 7, 15, 0, 32, 96, 224, 511, 1023] [] (by kernel_rfl) _ rfl [0, 1, 2, 3, 4, 5, 6, 7, 8] rfl (by simp) ?_
  refine lexQ rfl rfl rfl rfl (fun H hM => (yMove (v := .pointer _) rfl rfl)) ?_
  refine lexQ rfl rfl rfl rfl (fun H hM => (yNilCheck rfl rfl)) ?_
  refine lexQ rfl rfl rfl rfl (fun H hM => (yFieldAddr rfl Try.underlying71 rfl Try.sizeOf29 rfl rfl)) ?_
  refine lexQ rfl rfl rfl rfl (fun H hM => (yLoad rfl Try.underlying29 rfl rfl (hM.ext.cell (h.blk.cell rfl)))) ?_
  refine lexQ rfl rfl rfl rfl (fun H hM => (yLen rfl Try.underlying29 rfl)) ?_
  refine lexQ rfl rfl rfl rfl (fun H hM => (yMove (v := .pointer _) rfl rfl)) ?_
  refine lexQ rfl rfl rfl rfl (fun H hM => (yNilCheck rfl rfl)) ?_
  refine lexQ rfl rfl rfl rfl (fun H hM => (yFieldAddr rfl Try.underlying71 rfl Try.sizeOf3 rfl rfl)) ?_
  refine lexQ rfl rfl rfl rfl (fun H hM => (yLoad rfl Try.underlying3 rfl rfl (hM.ext.cell (h.blk.cell rfl)))) ?_
  -- tail
  refine lexNil0 rfl (fun hM => ?_)
  refine seqQ rfl rfl (ySub rfl rfl rfl (by unfold In64; omega)) ?_
  refine seqQ rfl rfl (yAssign (v := .int _ _) rfl rfl) ?_
  refine seqNil ?_
  refine hF4 _ _ ?_; clear hF4
  -- ret
  refine wpRet (fin1 (v := .int _ _) rfl rfl ?_)
  exact ⟨rfl, rfl⟩
set_option maxRecDepth 100000 in
theorem End_c (g : Nat) (B : Option Addr) (cB : Nat) (D : List UInt8) (k : Nat) (f : Bool) (H : Heap) (h : Rdr H g B cB D k f) :
    CallsH Try.prog 29 [.pointer (some ⟨g, 0, none⟩)] H fun v H' => v = .int .i64 (if f = true ∨ k < D.length then 4 else 0) ∧ H' = H := by
  refine callsH_of Try.func29 rfl Try.ntmps29 (Nat.le_of_ble_eq_true rfl) ?_
  refine wpSeq fun F1 hF1 => ?_
  refine wpRegion ?_
  refine seqQ rfl rfl (yAssign (v := .int _ _) rfl rfl) ?_
  refine seqNil ?_
  refine hF1 _ _ ?_; clear hF1
  refine wpSeq fun F2 hF2 => ?_
  refine wpBlock ?_
  refine wpSeq fun F3 hF3 => ?_
  refine wpRegion ?_
  refine seqQ rfl rfl (yMove (v := .pointer _) rfl rfl) ?_
  refine seqQ rfl rfl (yEqlPN rfl Try.underlying44 rfl rfl) ?_
  refine seqQ rfl rfl (yAssign (v := .bool _) rfl rfl) ?_
  refine seqNil ?_
  refine hF3 _ _ ?_; clear hF3
  -- if t3
  refine wpF rfl ?_
  refine wpSeq fun F4 hF4 => ?_
  refine wpRegion ?_
  refine seqQ rfl rfl (yMove (v := .pointer _) rfl rfl) ?_
  refine seqQ rfl rfl (yNilCheck rfl rfl) ?_
  refine seqQ rfl rfl (yFieldAddr rfl Try.underlying71 rfl Try.sizeOf4 rfl rfl) ?_
  refine seqQ rfl rfl (yLoad rfl Try.underlying4 rfl rfl (h.blk.cell rfl)) ?_
  -- guard t11
  cases f
  · skip
    refine seqQ rfl rfl (yMove (v := .bool false) rfl rfl) ?_
    refine seqQ rfl rfl (yMove (v := .pointer _) rfl rfl) ?_
    -- e slot 13: call F28<(*farandole/wire.Reader).Left> t12
    refine seqE rfl rfl (stepCall rfl Try.call28 rfl ?_)
    refine (Left_c g B cB D k false H h).mono ?_
    rintro v _ ⟨rfl, e⟩
    obtain rfl := e.symm
    clear e
    have hle := h.le
    refine seqQ rfl rfl (yGtr rfl rfl rfl) ?_
    refine seqQ rfl rfl (yPickF (v := .bool _) rfl rfl rfl) ?_
    refine seqQ rfl rfl (yAssign (v := .bool _) rfl rfl) ?_
    refine seqNil ?_
    refine hF4 _ _ ?_; clear hF4
    -- if t6
    refine wpIf rfl (fun hgt => ?_) (fun hgt => ?_)
    · skip
      refine wpSeq fun F5 hF5 => ?_
      refine wpRegion ?_
      refine seqQ rfl rfl (yAssign (v := .int _ _) rfl rfl) ?_
      refine seqNil ?_
      refine hF5 _ _ ?_; clear hF5
      -- ret
      refine wpRet (fin1 (v := .int _ _) rfl rfl ?_)
      exact ⟨by rw [if_pos (.inr (by omega))], rfl⟩
    · skip
      refine wpSkip ?_
      refine hF2 _ _ ?_; clear hF2
      refine wpSeq fun F6 hF6 => ?_
      refine wpRegion ?_
      refine seqQ rfl rfl (yAssign (v := .int _ _) rfl rfl) ?_
      refine seqNil ?_
      refine hF6 _ _ ?_; clear hF6
      -- ret
      refine wpRet (fin1 (v := .int _ _) rfl rfl ?_)
      exact ⟨by rw [if_neg (by simp; omega)], rfl⟩
  · skip
    refine seqQ rfl rfl (yMove (v := .bool true) rfl rfl) ?_
    refine seqU rfl rfl ?_
    refine seqU rfl rfl ?_
    refine seqU rfl rfl ?_
    refine seqQ rfl rfl (yPickT (v := .bool _) rfl rfl rfl) ?_
    refine seqQ rfl rfl (yAssign (v := .bool _) rfl rfl) ?_
    refine seqNil ?_
    refine hF4 _ _ ?_; clear hF4
    -- if t6
    refine wpT rfl ?_
    refine wpSeq fun F7 hF7 => ?_
    refine wpRegion ?_
    refine seqQ rfl rfl (yAssign (v := .int _ _) rfl rfl) ?_
    refine seqNil ?_
    refine hF7 _ _ ?_; clear hF7
    -- ret
    refine wpRet (fin1 (v := .int _ _) rfl rfl ?_)
    exact ⟨by rw [if_pos (.inl rfl)], rfl⟩
end Go.Proofs.Ytnccbnjjnijbhaa
