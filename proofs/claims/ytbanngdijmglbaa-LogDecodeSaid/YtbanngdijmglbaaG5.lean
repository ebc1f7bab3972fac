/- The document's reader: integers. -/
import Derived.Test.YtbanngdijmglbaaW11
import Derived.Test.YtbanngdijmglbaaLN
namespace Go.Proofs.Ytbanngdijmglbaa
open Go.RowKit

/-- Block g is the document's reader of the bytes D, at offset k; f: it has failed. -/
structure RRd (H : Heap) (g : Nat) (B : Option Addr) (cB : Nat) (D : List UInt8) (k : Nat) (f : Bool) : Prop where
  blk : Blk H g [.slice B D.length cB, .int .i64 k, .bool f] 126
  rd : RdM eByte [g] H B D
  le : k ≤ D.length
  cap : D.length ≤ cB
  few : D.length ≤ 1000000
section
variable {H H' : Heap} {g : Nat} {B : Option Addr} {cB : Nat} {D : List UInt8} {k : Nat} {f : Bool}
set_option maxRecDepth 100000 in
theorem RRd.ext (h : RRd H g B cB D k f) (hx : Ext H H') : RRd H' g B cB D k f := ⟨h.blk.ext hx, h.rd.tr (Tr.of_ext hx _), h.le, h.cap, h.few⟩
set_option maxRecDepth 100000 in
theorem RRd.store {k' : Nat} {f' : Bool} (h : RRd H g B cB D k f) (hB : Blk H' g [.slice B D.length cB, .int .i64 k', .bool f'] 126) (hK : Keep [g] H H') (hk : k' ≤ D.length) : RRd H' g B cB D k' f' :=
  ⟨hB, h.rd.tr (Tr.store hK (by simp)), hk, h.cap, h.few⟩
set_option maxRecDepth 100000 in
theorem RRd.lt (h : RRd H g B cB D k f) : g < H.size := h.blk.lt
end
/-- What a method of the document's reader leaves. -/
def RQ {α : Type} (p : List UInt8 → Option (α × List UInt8)) (V : Heap → α → Value → Prop) (U : Heap → Value → Prop) (g : Nat) (B : Option Addr) (cB : Nat) (D : List UInt8) (k : Nat) (f : Bool) (H : Heap) (v : Value) (H' : Heap) : Prop :=
  Keep [g] H H' ∧ ((∃ a r k', prs p f D k = some (a, r) ∧ D.drop k' = r ∧ RRd H' g B cB D k' false ∧ V H' a v) ∨ (prs p f D k = none ∧ (∃ k', RRd H' g B cB D k' true) ∧ U H' v))
section
variable {α : Type} {p : List UInt8 → Option (α × List UInt8)} {V : Heap → α → Value → Prop} {U : Heap → Value → Prop} {g : Nat} {B : Option Addr} {cB : Nat} {D : List UInt8} {k : Nat} {H H' : Heap} {v : Value}
set_option maxRecDepth 100000 in
theorem RQ.fail {f : Bool} {k' : Nat} (hK : Keep [g] H H') (hp : prs p f D k = none) (hr : RRd H' g B cB D k' true) (hu : U H' v) : RQ p V U g B cB D k f H v H' := ⟨hK, .inr ⟨hp, ⟨k', hr⟩, hu⟩⟩
set_option maxRecDepth 100000 in
theorem RQ.good {a : α} {k' : Nat} (hK : Keep [g] H H') (hp : p (D.drop k) = some (a, D.drop k')) (hr : RRd H' g B cB D k' false) (hv : V H' a v) : RQ p V U g B cB D k false H v H' := ⟨hK, .inl ⟨a, _, k', hp, rfl, hr, hv⟩⟩
end
section
variable {P : Program} {n : Nat} {o : Oper} {E : Env} {H : Heap} {x y : Operand} {T yT : TypeId} {a b c : Int} {k : IntKind}
set_option maxRecDepth 100000 in
theorem yMulKr (ho : o.op = .binOp .mul T x y yT) (hx : ev n E x = .int k a) (hy : ev n E y = .int k b) (e : k.wrap (a * b) = c) : Yld P n o E H (.int k c) := yBin ho hx hy fun w => by
  subst e
  simp [binOp, Op.intArith]
end
set_option maxRecDepth 100000 in
theorem w128 (i : Nat) : IntKind.u64.wrap (((128 ^ i % 18446744073709551616 : Nat) : Int) * 128) = ((128 ^ (i + 1) % 18446744073709551616 : Nat) : Int) := by
  rw [IntKind.wrap_u64, Nat.pow_succ]
  omega
set_option maxRecDepth 100000 in
theorem dig_mul {i m : Nat} (hi : i < 10) (hm : m < 128) (h9 : ¬ (i = 9 ∧ 1 < m)) : 128 ^ i * m < 18446744073709551616 ∧ 128 ^ i < 18446744073709551616 := by
  have h : i = 0 ∨ i = 1 ∨ i = 2 ∨ i = 3 ∨ i = 4 ∨ i = 5 ∨ i = 6 ∨ i = 7 ∨ i = 8 ∨ i = 9 := by omega
  rcases h with rfl | rfl | rfl | rfl | rfl | rfl | rfl | rfl | rfl | rfl <;> simp only [Nat.reducePow] <;> omega
set_option maxRecDepth 100000 in
theorem dig_add {i m acc : Nat} (hi : i < 10) (ha : acc < 128 ^ i) (hm : m < 128) (h9 : ¬ (i = 9 ∧ 1 < m)) : acc + 128 ^ i * m < 128 ^ (i + 1) ∧ acc + 128 ^ i * m < 18446744073709551616 := by
  have h : i = 0 ∨ i = 1 ∨ i = 2 ∨ i = 3 ∨ i = 4 ∨ i = 5 ∨ i = 6 ∨ i = 7 ∨ i = 8 ∨ i = 9 := by omega
  rcases h with rfl | rfl | rfl | rfl | rfl | rfl | rfl | rfl | rfl | rfl <;> simp only [Nat.reducePow, Nat.reduceAdd] at ha ⊢ <;> omega
set_option maxRecDepth 100000 in
theorem rInt01_c (g : Nat) (B : Option Addr) (cB : Nat) (D : List UInt8) (k : Nat) (f : Bool) (H : Heap) (h : RRd H g B cB D k f) :
    CallsH Try.prog 95 [.pointer (some ⟨g, 0, none⟩)] H fun v H' => RQ rdI VI UI g B cB D k f H v H' := by
  have hfew := h.few
  have hle := h.le
  refine callsH_of Try.func95 rfl Try.ntmps95 (Nat.le_of_ble_eq_true rfl) ?_
  refine wpSeq fun F1 hF1 => ?_
  refine wpRegion ?_
  refine seqQ rfl rfl (yAssign (v := .int _ _) rfl rfl) ?_
  refine seqNil ?_
  refine hF1 _ _ ?_; clear hF1
  refine wpSeq fun F2 hF2 => ?_
  refine wpRegion ?_
  refine seqQ rfl rfl (yAssign (v := .int _ _) rfl rfl) ?_
  refine seqQ rfl rfl (yAssign (v := .int _ _) rfl rfl) ?_
  refine seqNil ?_
  refine hF2 _ _ ?_; clear hF2
  refine wpSeq fun F3 hF3 => ?_
  refine wpSeq fun F4 hF4 => ?_
  refine wpRegion ?_
  refine seqQ rfl rfl (yMove (v := .pointer _) rfl rfl) ?_
  refine seqQ rfl rfl (yNilCheck rfl rfl) ?_
  refine seqQ rfl rfl (yFieldAddr rfl Try.underlying126 rfl Try.sizeOf3 rfl rfl) ?_
  refine seqQ rfl rfl (yLoad rfl Try.underlying3 rfl rfl (h.blk.cell rfl)) ?_
  refine seqQ rfl rfl (yAssign (v := .int _ _) rfl rfl) ?_
  refine seqNil ?_
  refine hF4 _ _ ?_; clear hF4
  -- loop
  refine wpBlock ?_
  refine wpLoopS [2, 3, 4, 5, 6, 11, 12, 13, 14, 15, 16, 17, 18, 19, 20, 21, 22, 23, 24, 25, 26, 27, 28, 29, 30, 31, 32, 33, 34, 35, 36, 37, 38, 39, 40, 41, 42, 43, 44, 45, 46, 47, 48, 49, 50, 51, 52, 53, 54, 55, 56, 57, 58, 59, 60, 61, 62, 63, 64, 65, 66, 67, 68, 69, 70, 71, 72, 73, 74, 75, 76, 77, 78, 79, 80, 81, 82, 83, 84, 85, 86, 87, 88, 89, 90, 91, 92, 93, 94, 95, 96] (fun x : Nat × Nat => [(5, .int .i64 (k + x.1 : Nat)), (3, .int .u64 x.2), (4, .int .u64 (128 ^ x.1 % 18446744073709551616 : Nat))]) (fun x H' => x.1 ≤ 10 ∧ H' = H ∧ x.2 < 128 ^ x.1 ∧ (0 < x.1 → f = false) ∧ (f = false → rdU 0 (D.drop k) = (rdU x.1 (D.drop (k + x.1))).map fun p => (x.2 + 128 ^ x.1 * p.1, p.2))) (fun x => 10 - x.1) (0, 0) ⟨rfl, rfl, rfl, trivial⟩ ⟨Nat.zero_le _, rfl, by simp, fun h => absurd h (by simp), fun _ => by simp⟩ ?_
  rintro ⟨i, acc⟩ J H1 ⟨hi, rfl, hacc, hf0, hrd⟩
  dsimp only at hi hacc hf0 hrd
  have h1 := h
  have hK1 : Keep [g] H1 H1 := Keep.refl _ _
  cases f
  · skip
    have hrd := hrd rfl
    refine wpSeq fun F5 hF5 => ?_
    refine wpSeq fun F6 hF6 => ?_
    refine wpRegion ?_
    refine seqQ rfl rfl (yMove (v := .int _ _) rfl rfl) ?_
    refine seqQ rfl rfl (yMove (v := .pointer _) rfl rfl) ?_
    refine seqQ rfl rfl (yNilCheck rfl rfl) ?_
    refine seqQ rfl rfl (yFieldAddr rfl Try.underlying126 rfl Try.sizeOf79 rfl rfl) ?_
    refine seqQ rfl rfl (yLoad rfl Try.underlying79 rfl rfl (h1.blk.cell rfl)) ?_
    refine seqQ rfl rfl (yLen rfl Try.underlying79 rfl) ?_
    refine seqQ rfl rfl (yLss rfl rfl rfl) ?_
    -- guard t18
    refine seqG rfl rfl rfl rfl (fun hlt => ?_) (fun hlt => ?_)
    · skip
      refine seqQ rfl rfl (yMove (v := .int _ _) rfl rfl) ?_
      refine seqQ rfl rfl (yMove (v := .pointer _) rfl rfl) ?_
      refine seqQ rfl rfl (yNilCheck rfl rfl) ?_
      refine seqQ rfl rfl (yFieldAddr rfl Try.underlying126 rfl Try.sizeOf3 rfl rfl) ?_
      refine seqQ rfl rfl (yLoad rfl Try.underlying3 rfl rfl (h1.blk.cell rfl)) ?_
      refine seqQ rfl rfl (yAdd rfl rfl rfl (by unfold In64; (try dsimp only); omega)) ?_
      refine seqQ rfl rfl (yLss rfl rfl rfl) ?_
      refine seqQ rfl rfl (yPickT (v := .bool _) rfl rfl rfl) ?_
      -- guard t27
      refine seqG rfl rfl rfl rfl (fun hten => ?_) (fun hten => ?_)
      · skip
        have hk : k + i < D.length := by omega
        have hi : i < 10 := by omega
        obtain ⟨p, ep, hp⟩ := h1.rd.rd.at1 hk
        have hc := D[k + i].toNat_lt
        generalize hcd : D[k + i] = cc at hp hc
        have hdrop : D.drop (k + i) = cc :: D.drop (k + i + 1) := by rw [List.drop_eq_getElem_cons hk, hcd]
        rw [hdrop] at hrd
        refine seqQ rfl rfl (yMove (v := .pointer _) rfl rfl) ?_
        refine seqQ rfl rfl (yNilCheck rfl rfl) ?_
        refine seqQ rfl rfl (yFieldAddr rfl Try.underlying126 rfl Try.sizeOf4 rfl rfl) ?_
        refine seqQ rfl rfl (yLoad rfl Try.underlying4 rfl rfl (h1.blk.cell rfl)) ?_
        refine seqQ rfl rfl (yNot rfl rfl) ?_
        refine seqQ rfl rfl (yPickT (v := .bool _) rfl rfl rfl) ?_
        refine seqNil ?_
        refine hF6 _ _ ?_; clear hF6
        -- if t33
        refine wpT rfl ?_
        refine wpSkip ?_
        refine hF5 _ _ ?_; clear hF5
        refine wpSeq fun F7 hF7 => ?_
        refine wpBlock ?_
        refine wpSeq fun F8 hF8 => ?_
        refine wpRegion ?_
        refine seqQ rfl rfl (yMove (v := .pointer _) rfl rfl) ?_
        refine seqQ rfl rfl (yNilCheck rfl rfl) ?_
        refine seqQ rfl rfl (yFieldAddr rfl Try.underlying126 rfl Try.sizeOf79 rfl rfl) ?_
        refine seqQ rfl rfl (yLoad rfl Try.underlying79 rfl rfl (h1.blk.cell rfl)) ?_
        refine seqQ rfl rfl (yMove (v := .int _ _) rfl rfl) ?_
        refine seqQ rfl rfl (yIdxP1 rfl Try.underlying79 Try.sizeOf5 rfl rfl ep rfl hk) ?_
        refine seqQ rfl rfl (yLoad rfl Try.underlying5 rfl rfl hp) ?_
        refine seqQ rfl rfl (yRem rfl rfl rfl (by omega)) ?_
        refine seqQ rfl rfl (yConv rfl Try.underlying5 Try.underlying149 rfl (show IntKind.u64.wrap ((cc.toNat : Int) % 128) = ((cc.toNat % 128 : Nat) : Int) by rw [IntKind.wrap_u64]; omega)) ?_
        refine seqQ rfl rfl (yAssign (v := .int _ _) rfl rfl) ?_
        refine seqNil ?_
        refine hF8 _ _ ?_; clear hF8
        refine wpSeq fun F9 hF9 => ?_
        refine wpSeq fun F10 hF10 => ?_
        refine wpRegion ?_
        refine seqQ rfl rfl (yMove (v := .int _ _) rfl rfl) ?_
        refine seqQ rfl rfl (yMove (v := .pointer _) rfl rfl) ?_
        refine seqQ rfl rfl (yNilCheck rfl rfl) ?_
        refine seqQ rfl rfl (yFieldAddr rfl Try.underlying126 rfl Try.sizeOf3 rfl rfl) ?_
        refine seqQ rfl rfl (yLoad rfl Try.underlying3 rfl rfl (h1.blk.cell rfl)) ?_
        refine seqQ rfl rfl (yAdd rfl rfl rfl (by unfold In64; (try dsimp only); omega)) ?_
        refine seqQ rfl rfl (yEql rfl rfl rfl) ?_
        -- guard t52
        have hbad : (i = 9 ∧ 1 < cc.toNat % 128) → rdI (D.drop k) = none := fun h9 => by
          unfold rdI
          rw [hrd]
          by_cases hs : cc.toNat < 128
          · rw [rdU_bad hi hs (.inr (by omega))]
            rfl
          · obtain ⟨rfl, -⟩ := h9
            rw [rdU_more hi (by omega), rdU_ten]
            rfl
        refine seqMeet 11 [52, 53, 54, 55] 55 (decide (i = 9 ∧ 1 < cc.toNat % 128)) (fun hm11 => ?_) (fun J11 => ?_)
        · skip
          first | refine seqG rfl rfl rfl rfl (fun h52 => ?_) (fun h52 => ?_) | refine seqGB rfl rfl rfl rfl (fun h52 => ?_) (fun h52 => ?_)
          · skip
            refine seqQ rfl rfl (yMove (v := .int _ _) rfl rfl) ?_
            refine seqQ rfl rfl (yGtr rfl rfl rfl) ?_
            refine seqQ rfl rfl (yPickT (v := .bool _) rfl rfl rfl) ?_
            exact hm11 _ (by repeat (first | (with_reducible exact Agree.refl _ _) | refine Agree.upd ?_ rfl | refine Agree.over ?_ rfl)) (by show Value.bool _ = Value.bool _; congr 1; first | (rw [decide_eq_decide]; omega) | (rw [eq_comm, decide_eq_false_iff_not]; omega))
          · skip
            refine seqU rfl rfl ?_
            refine seqU rfl rfl ?_
            refine seqQ rfl rfl (yPickF (v := .bool _) rfl rfl rfl) ?_
            exact hm11 _ (by repeat (first | (with_reducible exact Agree.refl _ _) | refine Agree.upd ?_ rfl | refine Agree.over ?_ rfl)) (by show Value.bool _ = Value.bool _; congr 1; first | (rw [decide_eq_decide]; omega) | (rw [eq_comm, decide_eq_false_iff_not]; omega))
        refine seqNil ?_
        refine hF10 _ _ ?_; clear hF10
        -- if t55
        refine wpIf rfl (fun h9 => ?_) (fun h9 => ?_)
        · skip
          refine wpExit ?_
          refine hF3 _ _ ?_; clear hF3
          refine wpSeq fun F12 hF12 => ?_
          refine wpRegion ?_
          refine seqQ rfl rfl (yMove (v := .pointer _) rfl rfl) ?_
          refine seqQ rfl rfl (yNilCheck rfl rfl) ?_
          refine seqQ rfl rfl (yFieldAddr rfl Try.underlying126 rfl Try.sizeOf4 rfl rfl) ?_
          -- e slot None: store T4 t99 [b:true]
          refine seqE0 rfl rfl (stepStore rfl Try.sizeOf4 rfl rfl rfl rfl h1.blk (Nat.le_of_ble_eq_true rfl) ?_)
          intro H3 hB3 hK3
          refine seqNil ?_
          refine hF12 _ _ ?_; clear hF12
          refine wpSeq fun F13 hF13 => ?_
          refine wpRegion ?_
          refine seqQ rfl rfl (yAssign (v := .int _ _) rfl rfl) ?_
          refine seqNil ?_
          refine hF13 _ _ ?_; clear hF13
          -- ret
          refine wpRet (fin1 (v := .int _ _) rfl rfl ?_)
          refine RQ.fail (hK1.trans hK3) ?_ (h1.store hB3 hK3 h1.le) ⟨_, rfl⟩
          (exact hbad h9)
        · skip
          obtain ⟨m1, m2⟩ := dig_mul hi (show cc.toNat % 128 < 128 by omega) h9
          obtain ⟨a1, a2⟩ := dig_add hi hacc (show cc.toNat % 128 < 128 by omega) h9
          rw [Nat.mod_eq_of_lt m2]
          refine wpSkip ?_
          refine hF9 _ _ ?_; clear hF9
          refine wpSeq fun F14 hF14 => ?_
          refine wpRegion ?_
          refine seqQ rfl rfl (yMove (v := .int _ _) rfl rfl) ?_
          refine seqQ rfl rfl (yMove (v := .int _ _) rfl rfl) ?_
          refine seqQ rfl rfl (yMove (v := .int _ _) rfl rfl) ?_
          refine seqQ rfl rfl (yMulKr (c := ((128 ^ i * (cc.toNat % 128) : Nat) : Int)) rfl rfl rfl (by rw [IntKind.wrap_u64, Int.mul_comm, ← Int.natCast_mul]; omega)) ?_
          refine seqQ rfl rfl (yAddK (c := ((acc + 128 ^ i * (cc.toNat % 128) : Nat) : Int)) rfl rfl rfl (by rw [IntKind.wrap_u64, ← Int.natCast_add]; omega)) ?_
          refine seqQ rfl rfl (yAssign (v := .int _ _) rfl rfl) ?_
          refine seqNil ?_
          refine hF14 _ _ ?_; clear hF14
          refine wpSeq fun F15 hF15 => ?_
          refine wpRegion ?_
          refine seqQ rfl rfl (yMove (v := .int _ _) rfl rfl) ?_
          refine seqQ rfl rfl (yMulKr (c := ((128 ^ (i + 1) % 18446744073709551616 : Nat) : Int)) rfl rfl rfl (by have := w128 i; rwa [Nat.mod_eq_of_lt m2] at this)) ?_
          refine seqQ rfl rfl (yAssign (v := .int _ _) rfl rfl) ?_
          refine seqNil ?_
          refine hF15 _ _ ?_; clear hF15
          refine wpSeq fun F16 hF16 => ?_
          refine wpSeq fun F17 hF17 => ?_
          refine wpRegion ?_
          refine seqQ rfl rfl (yMove (v := .pointer _) rfl rfl) ?_
          refine seqQ rfl rfl (yNilCheck rfl rfl) ?_
          refine seqQ rfl rfl (yFieldAddr rfl Try.underlying126 rfl Try.sizeOf79 rfl rfl) ?_
          refine seqQ rfl rfl (yLoad rfl Try.underlying79 rfl rfl (h1.blk.cell rfl)) ?_
          refine seqQ rfl rfl (yMove (v := .int _ _) rfl rfl) ?_
          refine seqQ rfl rfl (yIdxP1 rfl Try.underlying79 Try.sizeOf5 rfl rfl ep rfl hk) ?_
          refine seqQ rfl rfl (yLoad rfl Try.underlying5 rfl rfl hp) ?_
          refine seqQ rfl rfl (yGeq rfl rfl rfl) ?_
          refine seqNil ?_
          refine hF17 _ _ ?_; clear hF17
          -- if t70
          refine wpIf rfl (fun hs => ?_) (fun hs => ?_)
          · skip
            have hs : 128 ≤ cc.toNat := by omega
            refine wpExit ?_
            refine hF7 _ _ ?_; clear hF7
            refine wpRegion ?_
            refine seqQ rfl rfl (yMove (v := .int _ _) rfl rfl) ?_
            refine seqQ rfl rfl (yAdd rfl rfl rfl (by unfold In64; (try dsimp only); omega)) ?_
            refine seqQ rfl rfl (yAssign (v := .int _ _) rfl rfl) ?_
            refine seqNil ?_
            -- end loop
            refine loopEnd (i + 1, acc + 128 ^ i * (cc.toNat % 128)) (by repeat (first | (with_reducible exact Agree.refl _ _) | refine Agree.upd ?_ rfl | refine Agree.over ?_ rfl)) (by dsimp only; omega) ⟨rfl, rfl, rfl, trivial⟩ ⟨hi, rfl, a1, fun _ => rfl, fun _ => ?_⟩
            dsimp only
            rw [hrd, rdU_more hi hs, ← Nat.add_assoc]
            cases hq : rdU (i + 1) (D.drop (k + i + 1)) with
            | none => rfl
            | some q =>
              simp only [Option.map_some, Option.some.injEq, Prod.mk.injEq, and_true]
              have e1 : cc.toNat % 128 = cc.toNat - 128 := by omega
              rw [e1, Nat.pow_succ, Nat.mul_add, Nat.add_assoc, Nat.mul_assoc]
          · skip
            have hs : cc.toNat < 128 := by omega
            have hm : cc.toNat % 128 = cc.toNat := Nat.mod_eq_of_lt hs
            refine wpSkip ?_
            refine hF16 _ _ ?_; clear hF16
            refine wpSeq fun F18 hF18 => ?_
            refine wpSeq fun F19 hF19 => ?_
            refine wpRegion ?_
            refine seqQ rfl rfl (yMove (v := .int _ _) rfl rfl) ?_
            refine seqQ rfl rfl (yEql rfl rfl rfl) ?_
            -- guard t73
            refine seqMeet 10 [73, 74, 75, 76, 77, 78, 79, 80] 80 (decide (cc.toNat = 0 ∧ 0 < i)) (fun hm20 => ?_) (fun J20 => ?_)
            · skip
              first | refine seqG rfl rfl rfl rfl (fun h73 => ?_) (fun h73 => ?_) | refine seqGB rfl rfl rfl rfl (fun h73 => ?_) (fun h73 => ?_)
              · skip
                refine seqQ rfl rfl (yMove (v := .int _ _) rfl rfl) ?_
                refine seqQ rfl rfl (yMove (v := .pointer _) rfl rfl) ?_
                refine seqQ rfl rfl (yNilCheck rfl rfl) ?_
                refine seqQ rfl rfl (yFieldAddr rfl Try.underlying126 rfl Try.sizeOf3 rfl rfl) ?_
                refine seqQ rfl rfl (yLoad rfl Try.underlying3 rfl rfl (h1.blk.cell rfl)) ?_
                refine seqQ rfl rfl (yGtr rfl rfl rfl) ?_
                refine seqQ rfl rfl (yPickT (v := .bool _) rfl rfl rfl) ?_
                exact hm20 _ (by repeat (first | (with_reducible exact Agree.refl _ _) | refine Agree.upd ?_ rfl | refine Agree.over ?_ rfl)) (by show Value.bool _ = Value.bool _; congr 1; first | (rw [decide_eq_decide]; omega) | (rw [eq_comm, decide_eq_false_iff_not]; omega))
              · skip
                refine seqU rfl rfl ?_
                refine seqU rfl rfl ?_
                refine seqU rfl rfl ?_
                refine seqU rfl rfl ?_
                refine seqU rfl rfl ?_
                refine seqU rfl rfl ?_
                refine seqQ rfl rfl (yPickF (v := .bool _) rfl rfl rfl) ?_
                exact hm20 _ (by repeat (first | (with_reducible exact Agree.refl _ _) | refine Agree.upd ?_ rfl | refine Agree.over ?_ rfl)) (by show Value.bool _ = Value.bool _; congr 1; first | (rw [decide_eq_decide]; omega) | (rw [eq_comm, decide_eq_false_iff_not]; omega))
            refine seqNil ?_
            refine hF19 _ _ ?_; clear hF19
            -- if t80
            refine wpIf rfl (fun hz => ?_) (fun hz => ?_)
            · skip
              refine wpExit ?_
              refine hF3 _ _ ?_; clear hF3
              refine wpSeq fun F21 hF21 => ?_
              refine wpRegion ?_
              refine seqQ rfl rfl (yMove (v := .pointer _) rfl rfl) ?_
              refine seqQ rfl rfl (yNilCheck rfl rfl) ?_
              refine seqQ rfl rfl (yFieldAddr rfl Try.underlying126 rfl Try.sizeOf4 rfl rfl) ?_
              -- e slot None: store T4 t99 [b:true]
              refine seqE0 rfl rfl (stepStore rfl Try.sizeOf4 rfl rfl rfl rfl h1.blk (Nat.le_of_ble_eq_true rfl) ?_)
              intro H3 hB3 hK3
              refine seqNil ?_
              refine hF21 _ _ ?_; clear hF21
              refine wpSeq fun F22 hF22 => ?_
              refine wpRegion ?_
              refine seqQ rfl rfl (yAssign (v := .int _ _) rfl rfl) ?_
              refine seqNil ?_
              refine hF22 _ _ ?_; clear hF22
              -- ret
              refine wpRet (fin1 (v := .int _ _) rfl rfl ?_)
              refine RQ.fail (hK1.trans hK3) ?_ (h1.store hB3 hK3 h1.le) ⟨_, rfl⟩
              (exact show rdI (D.drop k) = none by unfold rdI; rw [hrd, rdU_bad hi hs (.inl hz)]; rfl)
            · skip
              rw [hm] at a2
              obtain ⟨u, eu⟩ : ∃ u, u = acc + 128 ^ i * cc.toNat := ⟨_, rfl⟩
              rw [hm, ← eu]
              rw [← eu] at a2
              have hgood : rdI (D.drop k) = some (unzig u, D.drop (k + i + 1)) := by
                unfold rdI
                rw [hrd, rdU_good hi hs ⟨by omega, by omega⟩]
                simp only [Option.map_some]
                rw [eu]
              have h64 : P64 (unzig u) := by
                unfold P64 unzig
                split <;> omega
              refine wpSkip ?_
              refine hF18 _ _ ?_; clear hF18
              refine wpSeq fun F23 hF23 => ?_
              refine wpRegion ?_
              refine seqQ rfl rfl (yMove (v := .pointer _) rfl rfl) ?_
              refine seqQ rfl rfl (yMove (v := .int _ _) rfl rfl) ?_
              refine seqQ rfl rfl (yAddE rfl rfl rfl (by unfold In64; (try dsimp only); omega) (show ((k + i : Nat) : Int) + 1 = ((k + i + 1 : Nat) : Int) by omega)) ?_
              refine seqQ rfl rfl (yNilCheck rfl rfl) ?_
              refine seqQ rfl rfl (yFieldAddr rfl Try.underlying126 rfl Try.sizeOf3 rfl rfl) ?_
              -- e slot None: store T3 t85 t83
              refine seqE0 rfl rfl (stepStore rfl Try.sizeOf3 rfl rfl rfl rfl h1.blk (Nat.le_of_ble_eq_true rfl) ?_)
              intro H3 hB3 hK3
              have h3 := h1.store (k' := k + i + 1) hB3 hK3 (by omega)
              refine seqNil ?_
              refine hF23 _ _ ?_; clear hF23
              refine wpSeq fun F24 hF24 => ?_
              refine wpSeq fun F25 hF25 => ?_
              refine wpRegion ?_
              refine seqQ rfl rfl (yMove (v := .int _ _) rfl rfl) ?_
              refine seqQ rfl rfl (yRem rfl rfl rfl (by omega)) ?_
              refine seqQ rfl rfl (yEql rfl rfl rfl) ?_
              refine seqNil ?_
              refine hF25 _ _ ?_; clear hF25
              -- if t88
              refine wpIf rfl (fun hodd => ?_) (fun hodd => ?_)
              · skip
                refine wpSeq fun F26 hF26 => ?_
                refine wpRegion ?_
                refine seqQ rfl rfl (yMove (v := .int _ _) rfl rfl) ?_
                refine seqQ rfl rfl (yQuoK (c := ((u / 2 : Nat) : Int)) rfl rfl rfl (by omega) (by rw [IntKind.wrap_u64]; omega)) ?_
                refine seqQ rfl rfl (yConv rfl Try.underlying149 Try.underlying3 rfl (show IntKind.i64.wrap ((u / 2 : Nat) : Int) = ((u / 2 : Nat) : Int) by rw [IntKind.wrap_i64]; omega)) ?_
                refine seqQ rfl rfl (yNeg rfl rfl (by unfold In64; omega)) ?_
                refine seqQ rfl rfl (ySub rfl rfl rfl (by unfold In64; omega)) ?_
                refine seqQ rfl rfl (yAssign (v := .int _ _) rfl rfl) ?_
                refine seqNil ?_
                refine hF26 _ _ ?_; clear hF26
                -- ret
                refine wpRet (fin1 (v := .int _ _) rfl rfl ?_)
                refine RQ.good (hK1.trans hK3) hgood h3 ⟨?_, h64⟩
                congr 1
                unfold unzig
                rw [if_pos (by omega)]
              · skip
                refine wpSkip ?_
                refine hF24 _ _ ?_; clear hF24
                refine wpSeq fun F27 hF27 => ?_
                refine wpRegion ?_
                refine seqQ rfl rfl (yMove (v := .int _ _) rfl rfl) ?_
                refine seqQ rfl rfl (yQuoK (c := ((u / 2 : Nat) : Int)) rfl rfl rfl (by omega) (by rw [IntKind.wrap_u64]; omega)) ?_
                refine seqQ rfl rfl (yConv rfl Try.underlying149 Try.underlying3 rfl (show IntKind.i64.wrap ((u / 2 : Nat) : Int) = ((u / 2 : Nat) : Int) by rw [IntKind.wrap_i64]; omega)) ?_
                refine seqQ rfl rfl (yAssign (v := .int _ _) rfl rfl) ?_
                refine seqNil ?_
                refine hF27 _ _ ?_; clear hF27
                -- ret
                refine wpRet (fin1 (v := .int _ _) rfl rfl ?_)
                refine RQ.good (hK1.trans hK3) hgood h3 ⟨?_, h64⟩
                congr 1
                unfold unzig
                rw [if_neg (by omega)]
      · skip
        have ei : i = 10 := by dsimp only at hten; omega
        subst ei
        refine seqU rfl rfl ?_
        refine seqU rfl rfl ?_
        refine seqU rfl rfl ?_
        refine seqU rfl rfl ?_
        refine seqU rfl rfl ?_
        refine seqQ rfl rfl (yPickF (v := .bool _) rfl rfl rfl) ?_
        refine seqNil ?_
        refine hF6 _ _ ?_; clear hF6
        -- if t33
        refine wpF rfl ?_
        refine wpExit ?_
        refine hF3 _ _ ?_; clear hF3
        refine wpSeq fun F28 hF28 => ?_
        refine wpRegion ?_
        refine seqQ rfl rfl (yMove (v := .pointer _) rfl rfl) ?_
        refine seqQ rfl rfl (yNilCheck rfl rfl) ?_
        refine seqQ rfl rfl (yFieldAddr rfl Try.underlying126 rfl Try.sizeOf4 rfl rfl) ?_
        -- e slot None: store T4 t99 [b:true]
        refine seqE0 rfl rfl (stepStore rfl Try.sizeOf4 rfl rfl rfl rfl h1.blk (Nat.le_of_ble_eq_true rfl) ?_)
        intro H3 hB3 hK3
        refine seqNil ?_
        refine hF28 _ _ ?_; clear hF28
        refine wpSeq fun F29 hF29 => ?_
        refine wpRegion ?_
        refine seqQ rfl rfl (yAssign (v := .int _ _) rfl rfl) ?_
        refine seqNil ?_
        refine hF29 _ _ ?_; clear hF29
        -- ret
        refine wpRet (fin1 (v := .int _ _) rfl rfl ?_)
        refine RQ.fail (hK1.trans hK3) ?_ (h1.store hB3 hK3 h1.le) ⟨_, rfl⟩
        (exact show rdI (D.drop k) = none by unfold rdI; rw [hrd, rdU_ten']; rfl)
    · skip
      have hge : D.length ≤ k + i := by dsimp only at hlt; omega
      rw [List.drop_of_length_le hge] at hrd
      have hn : rdI (D.drop k) = none := by
        unfold rdI
        rw [hrd]
        cases i <;> rfl
      refine seqU rfl rfl ?_
      refine seqU rfl rfl ?_
      refine seqU rfl rfl ?_
      refine seqU rfl rfl ?_
      refine seqU rfl rfl ?_
      refine seqU rfl rfl ?_
      refine seqU rfl rfl ?_
      refine seqQ rfl rfl (yPickF (v := .bool _) rfl rfl rfl) ?_
      refine seqQ rfl rfl (yMove (v := .bool false) rfl rfl) ?_
      refine seqU rfl rfl ?_
      refine seqU rfl rfl ?_
      refine seqU rfl rfl ?_
      refine seqU rfl rfl ?_
      refine seqU rfl rfl ?_
      refine seqQ rfl rfl (yPickF (v := .bool _) rfl rfl rfl) ?_
      refine seqNil ?_
      refine hF6 _ _ ?_; clear hF6
      -- if t33
      refine wpF rfl ?_
      refine wpExit ?_
      refine hF3 _ _ ?_; clear hF3
      refine wpSeq fun F30 hF30 => ?_
      refine wpRegion ?_
      refine seqQ rfl rfl (yMove (v := .pointer _) rfl rfl) ?_
      refine seqQ rfl rfl (yNilCheck rfl rfl) ?_
      refine seqQ rfl rfl (yFieldAddr rfl Try.underlying126 rfl Try.sizeOf4 rfl rfl) ?_
      -- e slot None: store T4 t99 [b:true]
      refine seqE0 rfl rfl (stepStore rfl Try.sizeOf4 rfl rfl rfl rfl h1.blk (Nat.le_of_ble_eq_true rfl) ?_)
      intro H3 hB3 hK3
      refine seqNil ?_
      refine hF30 _ _ ?_; clear hF30
      refine wpSeq fun F31 hF31 => ?_
      refine wpRegion ?_
      refine seqQ rfl rfl (yAssign (v := .int _ _) rfl rfl) ?_
      refine seqNil ?_
      refine hF31 _ _ ?_; clear hF31
      -- ret
      refine wpRet (fin1 (v := .int _ _) rfl rfl ?_)
      refine RQ.fail (hK1.trans hK3) ?_ (h1.store hB3 hK3 h1.le) ⟨_, rfl⟩
      (exact hn)
  · skip
    refine wpSeq fun F32 hF32 => ?_
    refine wpSeq fun F33 hF33 => ?_
    refine wpRegion ?_
    refine seqQ rfl rfl (yMove (v := .int _ _) rfl rfl) ?_
    refine seqQ rfl rfl (yMove (v := .pointer _) rfl rfl) ?_
    refine seqQ rfl rfl (yNilCheck rfl rfl) ?_
    refine seqQ rfl rfl (yFieldAddr rfl Try.underlying126 rfl Try.sizeOf79 rfl rfl) ?_
    refine seqQ rfl rfl (yLoad rfl Try.underlying79 rfl rfl (h1.blk.cell rfl)) ?_
    refine seqQ rfl rfl (yLen rfl Try.underlying79 rfl) ?_
    refine seqQ rfl rfl (yLss rfl rfl rfl) ?_
    -- guard t18
    refine seqG rfl rfl rfl rfl (fun hlt => ?_) (fun hlt => ?_)
    · skip
      refine seqQ rfl rfl (yMove (v := .int _ _) rfl rfl) ?_
      refine seqQ rfl rfl (yMove (v := .pointer _) rfl rfl) ?_
      refine seqQ rfl rfl (yNilCheck rfl rfl) ?_
      refine seqQ rfl rfl (yFieldAddr rfl Try.underlying126 rfl Try.sizeOf3 rfl rfl) ?_
      refine seqQ rfl rfl (yLoad rfl Try.underlying3 rfl rfl (h1.blk.cell rfl)) ?_
      refine seqQ rfl rfl (yAdd rfl rfl rfl (by unfold In64; (try dsimp only); omega)) ?_
      refine seqQ rfl rfl (yLss rfl rfl rfl) ?_
      refine seqQ rfl rfl (yPickT (v := .bool _) rfl rfl rfl) ?_
      -- guard t27
      refine seqG rfl rfl rfl rfl (fun hten => ?_) (fun hten => ?_)
      · skip
        refine seqQ rfl rfl (yMove (v := .pointer _) rfl rfl) ?_
        refine seqQ rfl rfl (yNilCheck rfl rfl) ?_
        refine seqQ rfl rfl (yFieldAddr rfl Try.underlying126 rfl Try.sizeOf4 rfl rfl) ?_
        refine seqQ rfl rfl (yLoad rfl Try.underlying4 rfl rfl (h1.blk.cell rfl)) ?_
        refine seqQ rfl rfl (yNot rfl rfl) ?_
        refine seqQ rfl rfl (yPickT (v := .bool _) rfl rfl rfl) ?_
        refine seqNil ?_
        refine hF33 _ _ ?_; clear hF33
        -- if t33
        refine wpF rfl ?_
        refine wpExit ?_
        refine hF3 _ _ ?_; clear hF3
        refine wpSeq fun F34 hF34 => ?_
        refine wpRegion ?_
        refine seqQ rfl rfl (yMove (v := .pointer _) rfl rfl) ?_
        refine seqQ rfl rfl (yNilCheck rfl rfl) ?_
        refine seqQ rfl rfl (yFieldAddr rfl Try.underlying126 rfl Try.sizeOf4 rfl rfl) ?_
        -- e slot None: store T4 t99 [b:true]
        refine seqE0 rfl rfl (stepStore rfl Try.sizeOf4 rfl rfl rfl rfl h1.blk (Nat.le_of_ble_eq_true rfl) ?_)
        intro H3 hB3 hK3
        refine seqNil ?_
        refine hF34 _ _ ?_; clear hF34
        refine wpSeq fun F35 hF35 => ?_
        refine wpRegion ?_
        refine seqQ rfl rfl (yAssign (v := .int _ _) rfl rfl) ?_
        refine seqNil ?_
        refine hF35 _ _ ?_; clear hF35
        -- ret
        refine wpRet (fin1 (v := .int _ _) rfl rfl ?_)
        refine RQ.fail (hK1.trans hK3) ?_ (h1.store hB3 hK3 h1.le) ⟨_, rfl⟩
        rfl
      · skip
        refine seqU rfl rfl ?_
        refine seqU rfl rfl ?_
        refine seqU rfl rfl ?_
        refine seqU rfl rfl ?_
        refine seqU rfl rfl ?_
        refine seqQ rfl rfl (yPickF (v := .bool _) rfl rfl rfl) ?_
        refine seqNil ?_
        refine hF33 _ _ ?_; clear hF33
        -- if t33
        refine wpF rfl ?_
        refine wpExit ?_
        refine hF3 _ _ ?_; clear hF3
        refine wpSeq fun F36 hF36 => ?_
        refine wpRegion ?_
        refine seqQ rfl rfl (yMove (v := .pointer _) rfl rfl) ?_
        refine seqQ rfl rfl (yNilCheck rfl rfl) ?_
        refine seqQ rfl rfl (yFieldAddr rfl Try.underlying126 rfl Try.sizeOf4 rfl rfl) ?_
        -- e slot None: store T4 t99 [b:true]
        refine seqE0 rfl rfl (stepStore rfl Try.sizeOf4 rfl rfl rfl rfl h1.blk (Nat.le_of_ble_eq_true rfl) ?_)
        intro H3 hB3 hK3
        refine seqNil ?_
        refine hF36 _ _ ?_; clear hF36
        refine wpSeq fun F37 hF37 => ?_
        refine wpRegion ?_
        refine seqQ rfl rfl (yAssign (v := .int _ _) rfl rfl) ?_
        refine seqNil ?_
        refine hF37 _ _ ?_; clear hF37
        -- ret
        refine wpRet (fin1 (v := .int _ _) rfl rfl ?_)
        refine RQ.fail (hK1.trans hK3) ?_ (h1.store hB3 hK3 h1.le) ⟨_, rfl⟩
        rfl
    · skip
      refine seqU rfl rfl ?_
      refine seqU rfl rfl ?_
      refine seqU rfl rfl ?_
      refine seqU rfl rfl ?_
      refine seqU rfl rfl ?_
      refine seqU rfl rfl ?_
      refine seqU rfl rfl ?_
      refine seqQ rfl rfl (yPickF (v := .bool _) rfl rfl rfl) ?_
      refine seqQ rfl rfl (yMove (v := .bool false) rfl rfl) ?_
      refine seqU rfl rfl ?_
      refine seqU rfl rfl ?_
      refine seqU rfl rfl ?_
      refine seqU rfl rfl ?_
      refine seqU rfl rfl ?_
      refine seqQ rfl rfl (yPickF (v := .bool _) rfl rfl rfl) ?_
      refine seqNil ?_
      refine hF33 _ _ ?_; clear hF33
      -- if t33
      refine wpF rfl ?_
      refine wpExit ?_
      refine hF3 _ _ ?_; clear hF3
      refine wpSeq fun F38 hF38 => ?_
      refine wpRegion ?_
      refine seqQ rfl rfl (yMove (v := .pointer _) rfl rfl) ?_
      refine seqQ rfl rfl (yNilCheck rfl rfl) ?_
      refine seqQ rfl rfl (yFieldAddr rfl Try.underlying126 rfl Try.sizeOf4 rfl rfl) ?_
      -- e slot None: store T4 t99 [b:true]
      refine seqE0 rfl rfl (stepStore rfl Try.sizeOf4 rfl rfl rfl rfl h1.blk (Nat.le_of_ble_eq_true rfl) ?_)
      intro H3 hB3 hK3
      refine seqNil ?_
      refine hF38 _ _ ?_; clear hF38
      refine wpSeq fun F39 hF39 => ?_
      refine wpRegion ?_
      refine seqQ rfl rfl (yAssign (v := .int _ _) rfl rfl) ?_
      refine seqNil ?_
      refine hF39 _ _ ?_; clear hF39
      -- ret
      refine wpRet (fin1 (v := .int _ _) rfl rfl ?_)
      refine RQ.fail (hK1.trans hK3) ?_ (h1.store hB3 hK3 h1.le) ⟨_, rfl⟩
      rfl
set_option maxRecDepth 100000 in
theorem rFail01_c (g : Nat) (B : Option Addr) (cB : Nat) (D : List UInt8) (k a : Nat) (f : Bool) (H : Heap) (h : RRd H g B cB D k f) (ha : a ≤ D.length) :
    CallsH Try.prog 96 [.pointer (some ⟨g, 0, none⟩), .int .i64 a] H fun v H' => v = .tuple #[] ∧ RRd H' g B cB D a true ∧ Keep [g] H H' := by
  refine callsH_of Try.func96 rfl Try.ntmps96 (Nat.le_of_ble_eq_true rfl) ?_
  refine wpRegion ?_
  refine seqQ rfl rfl (yMove (v := .pointer _) rfl rfl) ?_
  refine seqQ rfl rfl (yMove (v := .pointer _) rfl rfl) ?_
  refine seqQ rfl rfl (yMove (v := .int _ _) rfl rfl) ?_
  refine seqQ rfl rfl (yNilCheck rfl rfl) ?_
  refine seqQ rfl rfl (yFieldAddr rfl Try.underlying126 rfl Try.sizeOf3 rfl rfl) ?_
  -- e slot None: store T3 t8 t6
  refine seqE0 rfl rfl (stepStore rfl Try.sizeOf3 rfl rfl rfl rfl h.blk (Nat.le_of_ble_eq_true rfl) ?_)
  intro H1 hB1 hK1
  have h1 := h.store (k' := a) (f' := f) hB1 hK1 ha
  refine seqQ rfl rfl (yNilCheck rfl rfl) ?_
  refine seqQ rfl rfl (yFieldAddr rfl Try.underlying126 rfl Try.sizeOf4 rfl rfl) ?_
  -- e slot None: store T4 t10 [b:true]
  refine seqE0 rfl rfl (stepStore rfl Try.sizeOf4 rfl rfl rfl rfl h1.blk (Nat.le_of_ble_eq_true rfl) ?_)
  intro H2 hB2 hK2
  have h2 := h1.store (k' := a) (f' := true) hB2 hK2 ha
  refine seqNil ?_
  -- end top
  refine fin0 rfl ?_
  exact ⟨rfl, h2, hK1.trans hK2⟩
set_option maxRecDepth 100000 in
theorem rBnd01_c (g : Nat) (B : Option Addr) (cB : Nat) (D : List UInt8) (k : Nat) (f : Bool) (lo hi : Int) (H : Heap) (h : RRd H g B cB D k f) :
    CallsH Try.prog 65 [.pointer (some ⟨g, 0, none⟩), .int .i64 lo, .int .i64 hi] H fun v H' => RQ (pBnd lo hi) (VB lo hi) (fun _ v => v = .int .i64 0) g B cB D k f H v H' := by
  have hle := h.le
  refine callsH_of Try.func65 rfl Try.ntmps65 (Nat.le_of_ble_eq_true rfl) ?_
  refine wpSeq fun F1 hF1 => ?_
  refine wpRegion ?_
  refine seqQ rfl rfl (yAssign (v := .int _ _) rfl rfl) ?_
  refine seqNil ?_
  refine hF1 _ _ ?_; clear hF1
  refine wpSeq fun F2 hF2 => ?_
  refine wpRegion ?_
  refine seqQ rfl rfl (yMove (v := .pointer _) rfl rfl) ?_
  refine seqQ rfl rfl (yNilCheck rfl rfl) ?_
  refine seqQ rfl rfl (yFieldAddr rfl Try.underlying126 rfl Try.sizeOf3 rfl rfl) ?_
  refine seqQ rfl rfl (yLoad rfl Try.underlying3 rfl rfl (h.blk.cell rfl)) ?_
  refine seqQ rfl rfl (yAssign (v := .int _ _) rfl rfl) ?_
  refine seqNil ?_
  refine hF2 _ _ ?_; clear hF2
  refine wpSeq fun F3 hF3 => ?_
  refine wpRegion ?_
  refine seqQ rfl rfl (yMove (v := .pointer _) rfl rfl) ?_
  -- e slot 14: call F95<(*farandole/farandoleref01.Reader).Int> t13
  refine seqE rfl rfl (stepCall rfl Try.call95 rfl ?_)
  refine (rInt01_c g B cB D k f H h).mono ?_
  rintro v H1 ⟨hK1, ⟨n, r, k', hp, hr, h1, rfl, h64⟩ | ⟨hp, ⟨k', h1⟩, z, rfl⟩⟩
  · skip
    have hf : f = false := by cases f; rfl; cases hp
    subst hf
    rw [prs_f] at hp
    refine seqQ rfl rfl (yAssign (v := .int _ _) rfl rfl) ?_
    refine seqNil ?_
    refine hF3 _ _ ?_; clear hF3
    refine wpSeq fun F4 hF4 => ?_
    refine wpSeq fun F5 hF5 => ?_
    refine wpRegion ?_
    refine seqQ rfl rfl (yMove (v := .pointer _) rfl rfl) ?_
    refine seqQ rfl rfl (yNilCheck rfl rfl) ?_
    refine seqQ rfl rfl (yFieldAddr rfl Try.underlying126 rfl Try.sizeOf4 rfl rfl) ?_
    refine seqQ rfl rfl (yLoad rfl Try.underlying4 rfl rfl (h1.blk.cell rfl)) ?_
    refine seqNil ?_
    refine hF5 _ _ ?_; clear hF5
    -- if t18
    refine wpF rfl ?_
    refine wpSkip ?_
    refine hF4 _ _ ?_; clear hF4
    refine wpSeq fun F6 hF6 => ?_
    refine wpSeq fun F7 hF7 => ?_
    refine wpRegion ?_
    refine seqQ rfl rfl (yMove (v := .int _ _) rfl rfl) ?_
    refine seqQ rfl rfl (yMove (v := .int _ _) rfl rfl) ?_
    refine seqQ rfl rfl (yLss rfl rfl rfl) ?_
    -- guard t22
    refine seqMeet 8 [22, 23, 24, 25, 26] 26 (decide (n < lo ∨ hi < n)) (fun hm8 => ?_) (fun J8 => ?_)
    · skip
      first | refine seqG rfl rfl rfl rfl (fun h22 => ?_) (fun h22 => ?_) | refine seqGB rfl rfl rfl rfl (fun h22 => ?_) (fun h22 => ?_)
      · skip
        refine seqU rfl rfl ?_
        refine seqU rfl rfl ?_
        refine seqU rfl rfl ?_
        refine seqQ rfl rfl (yPickT (v := .bool _) rfl rfl rfl) ?_
        exact hm8 _ (by repeat (first | (with_reducible exact Agree.refl _ _) | refine Agree.upd ?_ rfl | refine Agree.over ?_ rfl)) (by show Value.bool _ = Value.bool _; congr 1; grind)
      · skip
        refine seqQ rfl rfl (yMove (v := .int _ _) rfl rfl) ?_
        refine seqQ rfl rfl (yMove (v := .int _ _) rfl rfl) ?_
        refine seqQ rfl rfl (yGtr rfl rfl rfl) ?_
        refine seqQ rfl rfl (yPickF (v := .bool _) rfl rfl rfl) ?_
        exact hm8 _ (by repeat (first | (with_reducible exact Agree.refl _ _) | refine Agree.upd ?_ rfl | refine Agree.over ?_ rfl)) (by show Value.bool _ = Value.bool _; congr 1; grind)
    refine seqNil ?_
    refine hF7 _ _ ?_; clear hF7
    -- if t26
    refine wpIf rfl (fun hout => ?_) (fun hout => ?_)
    · skip
      refine wpSeq fun F9 hF9 => ?_
      refine wpRegion ?_
      refine seqQ rfl rfl (yMove (v := .pointer _) rfl rfl) ?_
      refine seqQ rfl rfl (yMove (v := .int _ _) rfl rfl) ?_
      -- e slot 29: call F96<(*farandole/farandoleref01.Reader).fail> t27 t28
      refine seqE rfl rfl (stepCall rfl Try.call96 rfl ?_)
      refine (rFail01_c g B cB D k' k false H1 h1 hle).mono ?_
      rintro v H2 ⟨rfl, h2, hK2⟩
      refine seqNil ?_
      refine hF9 _ _ ?_; clear hF9
      refine wpSeq fun F10 hF10 => ?_
      refine wpRegion ?_
      refine seqQ rfl rfl (yAssign (v := .int _ _) rfl rfl) ?_
      refine seqNil ?_
      refine hF10 _ _ ?_; clear hF10
      -- ret
      refine wpRet (fin1 (v := .int _ _) rfl rfl ?_)
      exact RQ.fail (hK1.trans hK2) (by rw [prs_f]; exact pBnd_out hp (by omega)) h2 rfl
    · skip
      refine wpSkip ?_
      refine hF6 _ _ ?_; clear hF6
      refine wpSeq fun F11 hF11 => ?_
      refine wpRegion ?_
      refine seqQ rfl rfl (yMove (v := .int _ _) rfl rfl) ?_
      refine seqQ rfl rfl (yAssign (v := .int _ _) rfl rfl) ?_
      refine seqNil ?_
      refine hF11 _ _ ?_; clear hF11
      -- ret
      refine wpRet (fin1 (v := .int _ _) rfl rfl ?_)
      subst hr
      exact RQ.good hK1 (pBnd_some hp (by omega)) h1 ⟨rfl, by omega⟩
  · skip
    refine seqQ rfl rfl (yAssign (v := .int _ _) rfl rfl) ?_
    refine seqNil ?_
    refine hF3 _ _ ?_; clear hF3
    refine wpSeq fun F12 hF12 => ?_
    refine wpSeq fun F13 hF13 => ?_
    refine wpRegion ?_
    refine seqQ rfl rfl (yMove (v := .pointer _) rfl rfl) ?_
    refine seqQ rfl rfl (yNilCheck rfl rfl) ?_
    refine seqQ rfl rfl (yFieldAddr rfl Try.underlying126 rfl Try.sizeOf4 rfl rfl) ?_
    refine seqQ rfl rfl (yLoad rfl Try.underlying4 rfl rfl (h1.blk.cell rfl)) ?_
    refine seqNil ?_
    refine hF13 _ _ ?_; clear hF13
    -- if t18
    refine wpT rfl ?_
    refine wpSeq fun F14 hF14 => ?_
    refine wpRegion ?_
    refine seqQ rfl rfl (yAssign (v := .int _ _) rfl rfl) ?_
    refine seqNil ?_
    refine hF14 _ _ ?_; clear hF14
    -- ret
    refine wpRet (fin1 (v := .int _ _) rfl rfl ?_)
    refine RQ.fail hK1 ?_ h1 rfl
    cases f
    · rw [prs_f] at hp ⊢
      exact pBnd_none hp
    · rfl
end Go.Proofs.Ytbanngdijmglbaa
