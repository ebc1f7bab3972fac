/- Package timer: the document's tables: what is valid; tables compared, searched, copied. -/
import Derived.Test.YtbicgjleomkhdaaT2
import Derived.Laws.StructEq
namespace Go.Proofs.Ytbicgjleomkhdaa
open Go.RowKit

set_option maxRecDepth 100000 in
theorem part_one (P : Program) {t : TypeId} {cs : Array Value} {off : Nat} {v : Value} {d : TypeDesc} (hd : P.underlying t = some d) (ha : aggD d = false) (hv : cs[off]? = some v) (w : World) : (part t cs off).run P w = .ok v w := by
  simp [part, run_isAgg w hd, ha, hv]
set_option maxRecDepth 100000 in
theorem eqFields_cons {P : Program} {d : Nat} {f : Field} {fs : List Field} {xs ys : Array Value} {a b : Value} {r s : Bool} (hn : f.name ≠ "_") (ha : ∀ w, (part f.type xs f.offset).run P w = .ok a w) (hb : ∀ w, (part f.type ys f.offset).run P w = .ok b w)
    (hr : ∀ w, (Op.equalIn d f.type a b).run P w = .ok r w) (ih : ∀ w, (Op.eqFields d xs ys fs).run P w = .ok s w) (w : World) : (Op.eqFields d xs ys (f :: fs)).run P w = .ok (r && s) w := by
  unfold Op.eqFields
  rw [if_pos hn]
  simp only [Sem.run_bind, ha, hb, hr, Result.andThen_ok]
  cases r
  · simp
  · simp [ih]
set_option maxRecDepth 100000 in
theorem eq_tm (a b : Tm) (w : World) : (Op.equalIn 10000 42 (.agg (eTm.F a).toArray) (.agg (eTm.F b).toArray)).run Try.prog w = .ok (decide (a = b)) w := by
  have hS : Try.prog.underlying 42 = some (.struct (Try.prog.fieldsOf 42)) := by kernel_rfl
  rw [show (10000 : Nat) = 9999 + 1 from rfl, run_equalIn_struct w 9999 42 _ _ hS (by kernel_rfl)]
  simp only [Program.fieldsOf, Try.underlying42]
  have e : decide (a = b) = ((a.1 == b.1) && ((a.2 == b.2) && true)) := by
    obtain ⟨a1, a2⟩ := a
    obtain ⟨b1, b2⟩ := b
    simp only [Bool.and_true]
    rw [Bool.eq_iff_iff]
    simp
  rw [e]
  exact eqFields_cons (by decide) (part_one _ Try.underlying3 rfl rfl) (part_one _ Try.underlying3 rfl rfl) (fun w => run_equalIn_int w 9998 _ _ _ _ _ Try.underlying3)
    (eqFields_cons (by decide) (part_one _ Try.underlying3 rfl rfl) (part_one _ Try.underlying3 rfl rfl) (fun w => run_equalIn_int w 9998 _ _ _ _ _ Try.underlying3) (fun w => by simp [Op.eqFields])) w
set_option maxRecDepth 100000 in
theorem yNeqTm {n : Nat} {o : Oper} {E : Env} {H : Heap} {x y : Operand} {yT : TypeId} {a b : Tm} (ho : o.op = .binOp .neq 42 x y yT) (hx : ev n E x = .agg (eTm.F a).toArray) (hy : ev n E y = .agg (eTm.F b).toArray) : Yld Try.prog n o E H (.bool (!decide (a = b))) := fun w _ => by
  have hg : (eqGuard .neq 42 x y (.agg (eTm.F a).toArray) (.agg (eTm.F b).toArray)).run Try.prog w = .ok () w := by simp [eqGuard]
  have hb := run_neq_struct (P := Try.prog) w 42 (eTm.F a).toArray (eTm.F b).toArray
  rw [eq_tm] at hb
  simp only [Result.andThen_ok] at hb
  unfold execOp
  simp only [ho, hx, hy]
  simp only [Sem.run_bind, hg, hb, Result.andThen_ok, Sem.run_pure]
set_option maxRecDepth 100000 in
theorem rBefore_c (a b : Tm) (H : Heap) : CallsH Try.prog 24 [.agg (eTm.F a).toArray, .agg (eTm.F b).toArray] H fun v H' => v = .bool (decide (befT a b)) ∧ Ext H H' := by
  have hb : befT a b ↔ (a.1 < b.1 ∨ a.1 = b.1 ∧ a.2 < b.2) := Iff.rfl
  refine callsH_of Try.func24 rfl Try.ntmps24 (Nat.le_of_ble_eq_true rfl) ?_
  refine wpSeq fun F1 hF1 => ?_
  refine wpRegion ?_
  refine seqN rfl rfl (nBoxA rfl rfl) (fun g2 H2 hx2 hB2 hg2 hl2 => ?_)
  refine seqN rfl rfl (nBoxA rfl rfl) (fun g3 H3 hx3 hB3 hg3 hl3 => ?_)
  refine seqQ rfl rfl (yAssign (v := .bool _) rfl rfl) ?_
  refine seqNil ?_
  refine hF1 _ _ ?_; clear hF1
  refine wpSeq fun F2 hF2 => ?_
  refine wpRegion ?_
  refine seqQ rfl rfl (yFieldAddr rfl Try.underlying42 rfl Try.sizeOf3 rfl rfl) ?_
  refine seqQ rfl rfl (yLoad rfl Try.underlying3 rfl rfl ((hB2.ext hx3).cell rfl)) ?_
  refine seqQ rfl rfl (yFieldAddr rfl Try.underlying42 rfl Try.sizeOf3 rfl rfl) ?_
  refine seqQ rfl rfl (yLoad rfl Try.underlying3 rfl rfl (hB3.cell rfl)) ?_
  refine seqQ rfl rfl (yLss rfl rfl rfl) ?_
  -- guard t10
  refine seqG rfl rfl rfl rfl (fun h10 => ?_) (fun h10 => ?_)
  · skip
    refine seqU rfl rfl ?_
    refine seqU rfl rfl ?_
    refine seqU rfl rfl ?_
    refine seqU rfl rfl ?_
    refine seqU rfl rfl ?_
    refine seqU rfl rfl ?_
    refine seqU rfl rfl ?_
    refine seqU rfl rfl ?_
    refine seqU rfl rfl ?_
    refine seqU rfl rfl ?_
    refine seqU rfl rfl ?_
    refine seqU rfl rfl ?_
    refine seqQ rfl rfl (yPickT (v := .bool _) rfl rfl rfl) ?_
    refine seqQ rfl rfl (yAssign (v := .bool _) rfl rfl) ?_
    refine seqNil ?_
    refine hF2 _ _ ?_; clear hF2
    -- ret
    refine wpRet (fin1 (v := .bool _) rfl rfl ?_)
    exact ⟨by rw [decide_eq_true (hb.2 (.inl h10))], hx2.trans hx3⟩
  · skip
    refine seqQ rfl rfl (yFieldAddr rfl Try.underlying42 rfl Try.sizeOf3 rfl rfl) ?_
    refine seqQ rfl rfl (yLoad rfl Try.underlying3 rfl rfl ((hB2.ext hx3).cell rfl)) ?_
    refine seqQ rfl rfl (yFieldAddr rfl Try.underlying42 rfl Try.sizeOf3 rfl rfl) ?_
    refine seqQ rfl rfl (yLoad rfl Try.underlying3 rfl rfl (hB3.cell rfl)) ?_
    refine seqQ rfl rfl (yEql rfl rfl rfl) ?_
    -- guard t16
    refine seqG rfl rfl rfl rfl (fun h16 => ?_) (fun h16 => ?_)
    · skip
      refine seqQ rfl rfl (yFieldAddr rfl Try.underlying42 rfl Try.sizeOf3 rfl rfl) ?_
      refine seqQ rfl rfl (yLoad rfl Try.underlying3 rfl rfl ((hB2.ext hx3).cell rfl)) ?_
      refine seqQ rfl rfl (yFieldAddr rfl Try.underlying42 rfl Try.sizeOf3 rfl rfl) ?_
      refine seqQ rfl rfl (yLoad rfl Try.underlying3 rfl rfl (hB3.cell rfl)) ?_
      refine seqQ rfl rfl (yLss rfl rfl rfl) ?_
      refine seqQ rfl rfl (yPickT (v := .bool _) rfl rfl rfl) ?_
      refine seqQ rfl rfl (yPickF (v := .bool _) rfl rfl rfl) ?_
      refine seqQ rfl rfl (yAssign (v := .bool _) rfl rfl) ?_
      refine seqNil ?_
      refine hF2 _ _ ?_; clear hF2
      -- ret
      refine wpRet (fin1 (v := .bool _) rfl rfl ?_)
      exact ⟨by congr 1; rw [decide_eq_decide, hb]; omega, hx2.trans hx3⟩
    · skip
      refine seqU rfl rfl ?_
      refine seqU rfl rfl ?_
      refine seqU rfl rfl ?_
      refine seqU rfl rfl ?_
      refine seqU rfl rfl ?_
      refine seqQ rfl rfl (yPickF (v := .bool _) rfl rfl rfl) ?_
      refine seqQ rfl rfl (yPickF (v := .bool _) rfl rfl rfl) ?_
      refine seqQ rfl rfl (yAssign (v := .bool _) rfl rfl) ?_
      refine seqNil ?_
      refine hF2 _ _ ?_; clear hF2
      -- ret
      refine wpRet (fin1 (v := .bool _) rfl rfl ?_)
      exact ⟨by rw [decide_eq_false (fun h => by rw [hb] at h; omega)], hx2.trans hx3⟩
set_option maxRecDepth 100000 in
theorem rValidT_c (A : Option Addr) (c : Nat) (l : List Tm) (H : Heap) (hA : Rd eTm H A l) (hl : l.length ≤ 9223372036854775807) :
    CallsH Try.prog 9 [.slice A l.length c] H fun v H' => v = .bool (decide (ValidT l)) ∧ Ext H H' := by
  refine callsH_of Try.func9 rfl Try.ntmps9 (Nat.le_of_ble_eq_true rfl) ?_
  refine wpSeq fun F1 hF1 => ?_
  refine wpRegion ?_
  refine seqQ rfl rfl (yAssign (v := .bool _) rfl rfl) ?_
  refine seqNil ?_
  refine hF1 _ _ ?_; clear hF1
  refine wpSeq fun F2 hF2 => ?_
  refine wpSeq fun F3 hF3 => ?_
  refine wpRegion ?_
  refine seqQ rfl rfl (yAssign (v := .int _ _) rfl rfl) ?_
  refine seqNil ?_
  refine hF3 _ _ ?_; clear hF3
  -- loop
  refine wpBlock ?_
  refine wpLoopS [2, 3, 4, 5, 6, 7, 8, 9, 10, 11, 12, 13, 14, 15, 16, 17, 18, 19, 20, 21, 22, 23, 24, 25, 26, 27, 28, 29, 30, 31, 32, 33, 34, 35, 36, 37, 38, 39, 40, 41, 42, 43, 44, 45, 46, 47, 48, 49, 50, 51, 52, 53, 54, 55, 56, 57, 58, 59, 60, 61, 62, 63, 64, 65] (fun k : Nat => [(3, .int .i64 k)]) (fun k H' => k ≤ l.length ∧ (∀ i, i < k → OkAt l i) ∧ Ext H H') (fun k => l.length - k) 0 ⟨rfl, trivial⟩ ⟨by omega, fun i hi => absurd hi (by omega), Ext.refl _⟩ ?_
  rintro k J H2 ⟨hk, ho, hE⟩
  refine wpSeq fun F4 hF4 => ?_
  refine wpSeq fun F5 hF5 => ?_
  refine wpRegion ?_
  refine seqQ rfl rfl (yMove (v := .int _ _) rfl rfl) ?_
  refine seqQ rfl rfl (yMove (v := .slice _ _ _) rfl rfl) ?_
  refine seqQ rfl rfl (yLen rfl Try.underlying22 rfl) ?_
  refine seqQ rfl rfl (yLss rfl rfl rfl) ?_
  refine seqNil ?_
  refine hF5 _ _ ?_; clear hF5
  -- if t8
  refine wpIf rfl (fun hlt => ?_) (fun hlt => ?_)
  · skip
    have hk : k < l.length := by omega
    have hbad : ¬ OkAt l k → ¬ ValidT l := fun hn hv => hn (hv.1 k hk)
    have ek : gT l k = l[k] := gT_at hk
    obtain ⟨p, ep, hp⟩ := (hA.ext hE).at hk
    refine wpSkip ?_
    refine hF4 _ _ ?_; clear hF4
    refine wpSeq fun F6 hF6 => ?_
    refine wpBlock ?_
    refine wpSeq fun F7 hF7 => ?_
    refine wpSeq fun F8 hF8 => ?_
    refine wpRegionD Try_mixed [.q, .q, .q, .q, .q, .q, .q, .q, .q, .q, .q, .q, .q, .q, .q, .q, .q, .q, .q, .q, .q, .q, .q, .q, .q, .q, .q, .q, .q, .q, .q, .q, .q, .q, .q, .e, .q, .q, .q] 35 [0, 0, 3, 7, 15, 31, 63, 127, 127, 511, 1023, 2047, 4095, 8191, 16383, 32767, 32767, 131071, 262143, 524287, 1048575, 2097151, 4194303, 8388607, 16777215, 33554431, 67108863, 67108863, 201326591, 536870911, 1073741823, 67108863, 67108863, 6509559807, 15099494399, 34359738367, 68719476735, 137438953471, 274877906943] [] (by kernel_rfl) _ rfl [0, 1, 2, 3, 4, 5, 6, 7, 8, 9, 10, 11, 12, 13, 14, 15, 16, 17, 18, 19, 20, 21, 22, 23, 24, 25, 26, 27, 28, 29, 30, 31, 32, 33, 34] rfl (by simp) ?_
    refine lexQ rfl rfl rfl rfl (fun H hM => (yMove (v := .slice _ _ _) rfl rfl)) ?_
    refine lexQ rfl rfl rfl rfl (fun H hM => (yMove (v := .int _ _) rfl rfl)) ?_
    refine lexQ rfl rfl rfl rfl (fun H hM => (yIdxP rfl Try.underlying22 Try.sizeOf42 rfl rfl ep rfl hk)) ?_
    refine lexQ rfl rfl rfl rfl (fun H hM => (yFieldAddr rfl Try.underlying42 rfl Try.sizeOf3 rfl rfl)) ?_
    refine lexQ rfl rfl rfl rfl (fun H hM => (yLoad rfl Try.underlying3 rfl rfl (hM.ext.cell (hp 1 _ rfl)))) ?_
    refine lexQ rfl rfl rfl rfl (fun H hM => (yLss rfl rfl rfl)) ?_
    first | refine lexG rfl rfl rfl rfl rfl rfl (fun h17 => ?_) (fun h17 => ?_) | refine lexGB rfl rfl rfl rfl rfl rfl (fun h17 => ?_) (fun h17 => ?_)
    · skip
      refine lexU rfl rfl rfl ?_
      refine lexU rfl rfl rfl ?_
      refine lexU rfl rfl rfl ?_
      refine lexU rfl rfl rfl ?_
      refine lexU rfl rfl rfl ?_
      refine lexU rfl rfl rfl ?_
      refine lexQ rfl rfl rfl rfl (fun H hM => (yPickT (v := .bool _) rfl rfl rfl)) ?_
      refine lexQ rfl rfl rfl rfl (fun H hM => (yMove (v := .bool true) rfl rfl)) ?_
      refine lexU rfl rfl rfl ?_
      refine lexU rfl rfl rfl ?_
      refine lexU rfl rfl rfl ?_
      refine lexU rfl rfl rfl ?_
      refine lexU rfl rfl rfl ?_
      refine lexU rfl rfl rfl ?_
      refine lexQ rfl rfl rfl rfl (fun H hM => (yPickT (v := .bool _) rfl rfl rfl)) ?_
      refine lexQ rfl rfl rfl rfl (fun H hM => (yMove (v := .bool true) rfl rfl)) ?_
      refine lexU rfl rfl rfl ?_
      refine lexU rfl rfl rfl ?_
      refine lexU rfl rfl rfl ?_
      refine lexU rfl rfl rfl ?_
      refine lexU rfl rfl rfl ?_
      refine lexU rfl rfl rfl ?_
      refine lexU rfl rfl rfl ?_
      refine lexU rfl rfl rfl ?_
      refine lexU rfl rfl rfl ?_
      refine lexU rfl rfl rfl ?_
      refine lexU rfl rfl rfl ?_
      refine lexU rfl rfl rfl ?_
      refine lexNil0 rfl (fun hM => ?_)
      refine seqU rfl rfl ?_
      refine seqU rfl rfl ?_
      refine seqU rfl rfl ?_
      refine seqQ rfl rfl (yPickT (v := .bool _) rfl rfl rfl) ?_
      refine seqNil ?_
      refine hF8 _ _ ?_; clear hF8
      refine wpT rfl ?_
      refine wpSeq fun F9 hF9 => ?_
      refine wpRegion ?_
      refine seqQ rfl rfl (yAssign (v := .bool _) rfl rfl) ?_
      refine seqNil ?_
      refine hF9 _ _ ?_; clear hF9
      refine wpRet (fin1 (v := .bool _) rfl rfl ?_)
      exact ⟨by rw [decide_eq_false (hbad fun hf => by have := hf.1; rw [ek] at this; unfold okT at this; omega)], hE⟩
    refine lexQ rfl rfl rfl rfl (fun H hM => (yMove (v := .slice _ _ _) rfl rfl)) ?_
    refine lexQ rfl rfl rfl rfl (fun H hM => (yMove (v := .int _ _) rfl rfl)) ?_
    refine lexQ rfl rfl rfl rfl (fun H hM => (yIdxP rfl Try.underlying22 Try.sizeOf42 rfl rfl ep rfl hk)) ?_
    refine lexQ rfl rfl rfl rfl (fun H hM => (yFieldAddr rfl Try.underlying42 rfl Try.sizeOf3 rfl rfl)) ?_
    refine lexQ rfl rfl rfl rfl (fun H hM => (yLoad rfl Try.underlying3 rfl rfl (hM.ext.cell (hp 0 _ rfl)))) ?_
    refine lexQ rfl rfl rfl rfl (fun H hM => (yLss rfl rfl rfl)) ?_
    refine lexQ rfl rfl rfl rfl (fun H hM => (yPickF (v := .bool _) rfl rfl rfl)) ?_
    first | refine lexG rfl rfl rfl rfl rfl rfl (fun h25 => ?_) (fun h25 => ?_) | refine lexGB rfl rfl rfl rfl rfl rfl (fun h25 => ?_) (fun h25 => ?_)
    · skip
      refine lexU rfl rfl rfl ?_
      refine lexU rfl rfl rfl ?_
      refine lexU rfl rfl rfl ?_
      refine lexU rfl rfl rfl ?_
      refine lexU rfl rfl rfl ?_
      refine lexU rfl rfl rfl ?_
      refine lexQ rfl rfl rfl rfl (fun H hM => (yPickT (v := .bool _) rfl rfl rfl)) ?_
      refine lexQ rfl rfl rfl rfl (fun H hM => (yMove (v := .bool true) rfl rfl)) ?_
      refine lexU rfl rfl rfl ?_
      refine lexU rfl rfl rfl ?_
      refine lexU rfl rfl rfl ?_
      refine lexU rfl rfl rfl ?_
      refine lexU rfl rfl rfl ?_
      refine lexU rfl rfl rfl ?_
      refine lexU rfl rfl rfl ?_
      refine lexU rfl rfl rfl ?_
      refine lexU rfl rfl rfl ?_
      refine lexU rfl rfl rfl ?_
      refine lexU rfl rfl rfl ?_
      refine lexU rfl rfl rfl ?_
      refine lexNil0 rfl (fun hM => ?_)
      refine seqU rfl rfl ?_
      refine seqU rfl rfl ?_
      refine seqU rfl rfl ?_
      refine seqQ rfl rfl (yPickT (v := .bool _) rfl rfl rfl) ?_
      refine seqNil ?_
      refine hF8 _ _ ?_; clear hF8
      refine wpT rfl ?_
      refine wpSeq fun F10 hF10 => ?_
      refine wpRegion ?_
      refine seqQ rfl rfl (yAssign (v := .bool _) rfl rfl) ?_
      refine seqNil ?_
      refine hF10 _ _ ?_; clear hF10
      refine wpRet (fin1 (v := .bool _) rfl rfl ?_)
      exact ⟨by rw [decide_eq_false (hbad fun hf => by have := hf.1; rw [ek] at this; unfold okT at this; omega)], hE⟩
    refine lexQ rfl rfl rfl rfl (fun H hM => (yMove (v := .slice _ _ _) rfl rfl)) ?_
    refine lexQ rfl rfl rfl rfl (fun H hM => (yMove (v := .int _ _) rfl rfl)) ?_
    refine lexQ rfl rfl rfl rfl (fun H hM => (yIdxP rfl Try.underlying22 Try.sizeOf42 rfl rfl ep rfl hk)) ?_
    refine lexQ rfl rfl rfl rfl (fun H hM => (yFieldAddr rfl Try.underlying42 rfl Try.sizeOf3 rfl rfl)) ?_
    refine lexQ rfl rfl rfl rfl (fun H hM => (yLoad rfl Try.underlying3 rfl rfl (hM.ext.cell (hp 0 _ rfl)))) ?_
    refine lexQ rfl rfl rfl rfl (fun H hM => (yGtr rfl rfl rfl)) ?_
    refine lexQ rfl rfl rfl rfl (fun H hM => (yPickF (v := .bool _) rfl rfl rfl)) ?_
    first | refine lexG rfl rfl rfl rfl rfl rfl (fun h33 => ?_) (fun h33 => ?_) | refine lexGB rfl rfl rfl rfl rfl rfl (fun h33 => ?_) (fun h33 => ?_)
    · skip
      refine lexU rfl rfl rfl ?_
      refine lexU rfl rfl rfl ?_
      refine lexU rfl rfl rfl ?_
      refine lexU rfl rfl rfl ?_
      refine lexU rfl rfl rfl ?_
      refine lexU rfl rfl rfl ?_
      refine lexU rfl rfl rfl ?_
      refine lexU rfl rfl rfl ?_
      refine lexU rfl rfl rfl ?_
      refine lexU rfl rfl rfl ?_
      refine lexU rfl rfl rfl ?_
      refine lexU rfl rfl rfl ?_
      refine lexNil0 rfl (fun hM => ?_)
      refine seqU rfl rfl ?_
      refine seqU rfl rfl ?_
      refine seqU rfl rfl ?_
      refine seqQ rfl rfl (yPickT (v := .bool _) rfl rfl rfl) ?_
      refine seqNil ?_
      refine hF8 _ _ ?_; clear hF8
      refine wpT rfl ?_
      refine wpSeq fun F11 hF11 => ?_
      refine wpRegion ?_
      refine seqQ rfl rfl (yAssign (v := .bool _) rfl rfl) ?_
      refine seqNil ?_
      refine hF11 _ _ ?_; clear hF11
      refine wpRet (fin1 (v := .bool _) rfl rfl ?_)
      exact ⟨by rw [decide_eq_false (hbad fun hf => by have := hf.1; rw [ek] at this; unfold okT at this; omega)], hE⟩
    refine lexQ rfl rfl rfl rfl (fun H hM => (yMove (v := .int _ _) rfl rfl)) ?_
    refine lexQ rfl rfl rfl rfl (fun H hM => (yGtr rfl rfl rfl)) ?_
    -- guard t36
    have hp1 : okT l[k] := by unfold okT; omega
    refine lexG rfl rfl rfl rfl rfl rfl (fun h36 => ?_) (fun h36 => ?_)
    · skip
      have hk1 : k - 1 < l.length := by omega
      have ek1 : gT l (k - 1) = l[k - 1] := gT_at hk1
      obtain ⟨q, eq, hq⟩ := (hA.ext hE).at hk1
      refine lexQ rfl rfl rfl rfl (fun H hM => (yMove (v := .slice _ _ _) rfl rfl)) ?_
      refine lexQ rfl rfl rfl rfl (fun H hM => (yMove (v := .int _ _) rfl rfl)) ?_
      refine lexQ rfl rfl rfl rfl (fun H hM => (ySub rfl rfl rfl (by unfold In64; omega))) ?_
      refine lexQ rfl rfl rfl rfl (fun H hM => (yIdxP rfl Try.underlying22 Try.sizeOf42 rfl rfl eq (by omega) hk1)) ?_
      refine lexQ rfl rfl rfl rfl (fun H hM => (yLoadC (cs := eTm.F l[k - 1]) rfl Try.underlying42 rfl Try.sizeOf42 rfl (fun j u hu => hM.ext.cell (hq j u hu)))) ?_
      refine lexQ rfl rfl rfl rfl (fun H hM => (yMove (v := .slice _ _ _) rfl rfl)) ?_
      refine lexQ rfl rfl rfl rfl (fun H hM => (yMove (v := .int _ _) rfl rfl)) ?_
      refine lexQ rfl rfl rfl rfl (fun H hM => (yIdxP rfl Try.underlying22 Try.sizeOf42 rfl rfl ep rfl hk)) ?_
      refine lexQ rfl rfl rfl rfl (fun H hM => (yLoadC (cs := eTm.F l[k]) rfl Try.underlying42 rfl Try.sizeOf42 rfl (fun j u hu => hM.ext.cell (hp j u hu)))) ?_
      -- tail
      refine lexNil0 rfl (fun hM => ?_)
      -- e slot 46: call F24<farandole/farandoleref49.before> t41 t45
      refine seqE rfl rfl (stepCall rfl Try.call24 rfl ?_)
      refine (rBefore_c l[k - 1] l[k] _).mono ?_
      rintro v H4 ⟨rfl, x4⟩
      refine seqQ rfl rfl (yNot rfl rfl) ?_
      refine seqQ rfl rfl (yPickT (v := .bool _) rfl rfl rfl) ?_
      refine seqQ rfl rfl (yPickF (v := .bool _) rfl rfl rfl) ?_
      refine seqNil ?_
      refine hF8 _ _ ?_; clear hF8
      -- if t49
      refine wpCond rfl (fun h49 => ?_) (fun h49 => ?_)
      · skip
        have h49 : ¬ befT l[k - 1] l[k] := by simpa using h49
        refine wpSeq fun F12 hF12 => ?_
        refine wpRegion ?_
        refine seqQ rfl rfl (yAssign (v := .bool _) rfl rfl) ?_
        refine seqNil ?_
        refine hF12 _ _ ?_; clear hF12
        -- ret
        refine wpRet (fin1 (v := .bool _) rfl rfl ?_)
        exact ⟨by rw [decide_eq_false (hbad fun hf => h49 (by rw [← ek, ← ek1]; exact hf.2.1 (by omega)))], hE.trans x4⟩
      · skip
        have hbf : 0 < k → befT (gT l (k - 1)) (gT l k) := fun _ => by
          rw [ek, ek1]
          simpa using h49
        refine wpSkip ?_
        refine hF7 _ _ ?_; clear hF7
        refine wpSeq fun F13 hF13 => ?_
        refine wpRegion ?_
        refine seqQ rfl rfl (yAssign (v := .int _ _) rfl rfl) ?_
        refine seqNil ?_
        refine hF13 _ _ ?_; clear hF13
        -- loop
        refine wpBlock ?_
        refine wpLoopS [2, 4, 50, 51, 52, 53, 54, 55, 56, 57, 58, 59, 60, 61, 62, 63, 64, 65] (fun j : Nat => [(4, .int .i64 j)]) (fun j H' => j ≤ k ∧ (∀ i, i < j → (gT l i).2 ≠ (gT l k).2) ∧ Ext H H') (fun j => k - j) 0 ⟨rfl, trivial⟩ ⟨by omega, fun i hi => absurd hi (by omega), hE.trans x4⟩ ?_
        rintro j J3 H5 ⟨hj, hd, hE5⟩
        refine wpSeq fun F14 hF14 => ?_
        refine wpSeq fun F15 hF15 => ?_
        refine wpRegion ?_
        refine seqQ rfl rfl (yMove (v := .int _ _) rfl rfl) ?_
        refine seqQ rfl rfl (yMove (v := .int _ _) rfl rfl) ?_
        refine seqQ rfl rfl (yLss rfl rfl rfl) ?_
        refine seqNil ?_
        refine hF15 _ _ ?_; clear hF15
        -- if t52
        refine wpIf rfl (fun hjk => ?_) (fun hjk => ?_)
        · skip
          have hj : j < k := by omega
          have hjl : j < l.length := by omega
          have ej : gT l j = l[j] := gT_at hjl
          obtain ⟨p, ep, hp⟩ := (hA.ext hE5).at hk
          obtain ⟨q, eq, hq⟩ := (hA.ext hE5).at hjl
          refine wpSkip ?_
          refine hF14 _ _ ?_; clear hF14
          refine wpSeq fun F16 hF16 => ?_
          refine wpBlock ?_
          refine wpSeq fun F17 hF17 => ?_
          refine wpRegionD Try_mixed [.q, .q, .q, .q, .q, .q, .q, .q, .q, .q, .q] 10 [0, 0, 3, 7, 15, 0, 0, 96, 224, 480, 1023] [] (by kernel_rfl) _ rfl [0, 1, 2, 3, 4, 5, 6, 7, 8, 9] rfl (by simp) ?_
          refine lexQ rfl rfl rfl rfl (fun H hM => (yMove (v := .slice _ _ _) rfl rfl)) ?_
          refine lexQ rfl rfl rfl rfl (fun H hM => (yMove (v := .int _ _) rfl rfl)) ?_
          refine lexQ rfl rfl rfl rfl (fun H hM => (yIdxP rfl Try.underlying22 Try.sizeOf42 rfl rfl eq rfl hjl)) ?_
          refine lexQ rfl rfl rfl rfl (fun H hM => (yFieldAddr rfl Try.underlying42 rfl Try.sizeOf3 rfl rfl)) ?_
          refine lexQ rfl rfl rfl rfl (fun H hM => (yLoad rfl Try.underlying3 rfl rfl (hM.ext.cell (hq 1 _ rfl)))) ?_
          refine lexQ rfl rfl rfl rfl (fun H hM => (yMove (v := .slice _ _ _) rfl rfl)) ?_
          refine lexQ rfl rfl rfl rfl (fun H hM => (yMove (v := .int _ _) rfl rfl)) ?_
          refine lexQ rfl rfl rfl rfl (fun H hM => (yIdxP rfl Try.underlying22 Try.sizeOf42 rfl rfl ep rfl hk)) ?_
          refine lexQ rfl rfl rfl rfl (fun H hM => (yFieldAddr rfl Try.underlying42 rfl Try.sizeOf3 rfl rfl)) ?_
          refine lexQ rfl rfl rfl rfl (fun H hM => (yLoad rfl Try.underlying3 rfl rfl (hM.ext.cell (hp 1 _ rfl)))) ?_
          -- tail
          refine lexNil0 rfl (fun hM => ?_)
          refine seqQ rfl rfl (yEql rfl rfl rfl) ?_
          refine seqNil ?_
          refine hF17 _ _ ?_; clear hF17
          -- if t65
          refine wpIf rfl (fun hsame => ?_) (fun hsame => ?_)
          · skip
            refine wpSeq fun F18 hF18 => ?_
            refine wpRegion ?_
            refine seqQ rfl rfl (yAssign (v := .bool _) rfl rfl) ?_
            refine seqNil ?_
            refine hF18 _ _ ?_; clear hF18
            -- ret
            refine wpRet (fin1 (v := .bool _) rfl rfl ?_)
            exact ⟨by rw [decide_eq_false (hbad fun hf => hf.2.2 j hj (by rw [ej, ek]; exact hsame))], hE5⟩
          · skip
            refine wpSkip ?_
            refine hF16 _ _ ?_; clear hF16
            refine wpRegion ?_
            refine seqQ rfl rfl (yMove (v := .int _ _) rfl rfl) ?_
            refine seqQ rfl rfl (yAdd rfl rfl rfl (by unfold In64; omega)) ?_
            refine seqQ rfl rfl (yAssign (v := .int _ _) rfl rfl) ?_
            refine seqNil ?_
            -- end loop
            refine loopEnd (j + 1) (by repeat (first | (with_reducible exact Agree.refl _ _) | refine Agree.upd ?_ rfl | refine Agree.over ?_ rfl)) (by omega) ⟨rfl, trivial⟩ ⟨hj, fun i hi => ?_, hE5⟩
            by_cases e : i = j
            · subst e
              rw [ej, ek]
              exact hsame
            · exact hd i (by omega)
        · skip
          obtain rfl : j = k := by omega
          refine wpExit ?_
          refine hF6 _ _ ?_; clear hF6
          refine wpRegion ?_
          refine seqQ rfl rfl (yMove (v := .int _ _) rfl rfl) ?_
          refine seqQ rfl rfl (yAdd rfl rfl rfl (by unfold In64; omega)) ?_
          refine seqQ rfl rfl (yAssign (v := .int _ _) rfl rfl) ?_
          refine seqNil ?_
          -- end loop
          refine loopEnd (j + 1) (by repeat (first | (with_reducible exact Agree.refl _ _) | refine Agree.upd ?_ rfl | refine Agree.over ?_ rfl)) (by omega) ⟨rfl, trivial⟩ ⟨hk, fun i hi => ?_, hE5⟩
          by_cases e : i = j
          · subst e
            exact ⟨by rw [ek]; exact hp1, hbf, hd⟩
          · exact ho i (by omega)
    · skip
      have hbf : 0 < k → befT (gT l (k - 1)) (gT l k) := fun h => absurd h (by omega)
      refine lexU rfl rfl rfl ?_
      refine lexU rfl rfl rfl ?_
      refine lexU rfl rfl rfl ?_
      refine lexU rfl rfl rfl ?_
      refine lexU rfl rfl rfl ?_
      refine lexU rfl rfl rfl ?_
      refine lexU rfl rfl rfl ?_
      refine lexU rfl rfl rfl ?_
      refine lexU rfl rfl rfl ?_
      -- tail
      refine lexNil0 rfl (fun hM => ?_)
      refine seqU rfl rfl ?_
      refine seqU rfl rfl ?_
      refine seqQ rfl rfl (yPickF (v := .bool _) rfl rfl rfl) ?_
      refine seqQ rfl rfl (yPickF (v := .bool _) rfl rfl rfl) ?_
      refine seqNil ?_
      refine hF8 _ _ ?_; clear hF8
      -- if t49
      refine wpF rfl ?_
      refine wpSkip ?_
      refine hF7 _ _ ?_; clear hF7
      refine wpSeq fun F19 hF19 => ?_
      refine wpRegion ?_
      refine seqQ rfl rfl (yAssign (v := .int _ _) rfl rfl) ?_
      refine seqNil ?_
      refine hF19 _ _ ?_; clear hF19
      -- loop
      refine wpBlock ?_
      refine wpLoopS [2, 4, 50, 51, 52, 53, 54, 55, 56, 57, 58, 59, 60, 61, 62, 63, 64, 65] (fun j : Nat => [(4, .int .i64 j)]) (fun j H' => j ≤ k ∧ (∀ i, i < j → (gT l i).2 ≠ (gT l k).2) ∧ Ext H H') (fun j => k - j) 0 ⟨rfl, trivial⟩ ⟨by omega, fun i hi => absurd hi (by omega), hE.trans (Ext.refl _)⟩ ?_
      rintro j J3 H5 ⟨hj, hd, hE5⟩
      refine wpSeq fun F20 hF20 => ?_
      refine wpSeq fun F21 hF21 => ?_
      refine wpRegion ?_
      refine seqQ rfl rfl (yMove (v := .int _ _) rfl rfl) ?_
      refine seqQ rfl rfl (yMove (v := .int _ _) rfl rfl) ?_
      refine seqQ rfl rfl (yLss rfl rfl rfl) ?_
      refine seqNil ?_
      refine hF21 _ _ ?_; clear hF21
      -- if t52
      refine wpIf rfl (fun hjk => ?_) (fun hjk => ?_)
      · skip
        have hj : j < k := by omega
        have hjl : j < l.length := by omega
        have ej : gT l j = l[j] := gT_at hjl
        obtain ⟨p, ep, hp⟩ := (hA.ext hE5).at hk
        obtain ⟨q, eq, hq⟩ := (hA.ext hE5).at hjl
        refine wpSkip ?_
        refine hF20 _ _ ?_; clear hF20
        refine wpSeq fun F22 hF22 => ?_
        refine wpBlock ?_
        refine wpSeq fun F23 hF23 => ?_
        refine wpRegionD Try_mixed [.q, .q, .q, .q, .q, .q, .q, .q, .q, .q, .q] 10 [0, 0, 3, 7, 15, 0, 0, 96, 224, 480, 1023] [] (by kernel_rfl) _ rfl [0, 1, 2, 3, 4, 5, 6, 7, 8, 9] rfl (by simp) ?_
        refine lexQ rfl rfl rfl rfl (fun H hM => (yMove (v := .slice _ _ _) rfl rfl)) ?_
        refine lexQ rfl rfl rfl rfl (fun H hM => (yMove (v := .int _ _) rfl rfl)) ?_
        refine lexQ rfl rfl rfl rfl (fun H hM => (yIdxP rfl Try.underlying22 Try.sizeOf42 rfl rfl eq rfl hjl)) ?_
        refine lexQ rfl rfl rfl rfl (fun H hM => (yFieldAddr rfl Try.underlying42 rfl Try.sizeOf3 rfl rfl)) ?_
        refine lexQ rfl rfl rfl rfl (fun H hM => (yLoad rfl Try.underlying3 rfl rfl (hM.ext.cell (hq 1 _ rfl)))) ?_
        refine lexQ rfl rfl rfl rfl (fun H hM => (yMove (v := .slice _ _ _) rfl rfl)) ?_
        refine lexQ rfl rfl rfl rfl (fun H hM => (yMove (v := .int _ _) rfl rfl)) ?_
        refine lexQ rfl rfl rfl rfl (fun H hM => (yIdxP rfl Try.underlying22 Try.sizeOf42 rfl rfl ep rfl hk)) ?_
        refine lexQ rfl rfl rfl rfl (fun H hM => (yFieldAddr rfl Try.underlying42 rfl Try.sizeOf3 rfl rfl)) ?_
        refine lexQ rfl rfl rfl rfl (fun H hM => (yLoad rfl Try.underlying3 rfl rfl (hM.ext.cell (hp 1 _ rfl)))) ?_
        -- tail
        refine lexNil0 rfl (fun hM => ?_)
        refine seqQ rfl rfl (yEql rfl rfl rfl) ?_
        refine seqNil ?_
        refine hF23 _ _ ?_; clear hF23
        -- if t65
        refine wpIf rfl (fun hsame => ?_) (fun hsame => ?_)
        · skip
          refine wpSeq fun F24 hF24 => ?_
          refine wpRegion ?_
          refine seqQ rfl rfl (yAssign (v := .bool _) rfl rfl) ?_
          refine seqNil ?_
          refine hF24 _ _ ?_; clear hF24
          -- ret
          refine wpRet (fin1 (v := .bool _) rfl rfl ?_)
          exact ⟨by rw [decide_eq_false (hbad fun hf => hf.2.2 j hj (by rw [ej, ek]; exact hsame))], hE5⟩
        · skip
          refine wpSkip ?_
          refine hF22 _ _ ?_; clear hF22
          refine wpRegion ?_
          refine seqQ rfl rfl (yMove (v := .int _ _) rfl rfl) ?_
          refine seqQ rfl rfl (yAdd rfl rfl rfl (by unfold In64; omega)) ?_
          refine seqQ rfl rfl (yAssign (v := .int _ _) rfl rfl) ?_
          refine seqNil ?_
          -- end loop
          refine loopEnd (j + 1) (by repeat (first | (with_reducible exact Agree.refl _ _) | refine Agree.upd ?_ rfl | refine Agree.over ?_ rfl)) (by omega) ⟨rfl, trivial⟩ ⟨hj, fun i hi => ?_, hE5⟩
          by_cases e : i = j
          · subst e
            rw [ej, ek]
            exact hsame
          · exact hd i (by omega)
      · skip
        obtain rfl : j = k := by omega
        refine wpExit ?_
        refine hF6 _ _ ?_; clear hF6
        refine wpRegion ?_
        refine seqQ rfl rfl (yMove (v := .int _ _) rfl rfl) ?_
        refine seqQ rfl rfl (yAdd rfl rfl rfl (by unfold In64; omega)) ?_
        refine seqQ rfl rfl (yAssign (v := .int _ _) rfl rfl) ?_
        refine seqNil ?_
        -- end loop
        refine loopEnd (j + 1) (by repeat (first | (with_reducible exact Agree.refl _ _) | refine Agree.upd ?_ rfl | refine Agree.over ?_ rfl)) (by omega) ⟨rfl, trivial⟩ ⟨hk, fun i hi => ?_, hE5⟩
        by_cases e : i = j
        · subst e
          exact ⟨by rw [ek]; exact hp1, hbf, hd⟩
        · exact ho i (by omega)
  · skip
    obtain rfl : k = l.length := by omega
    refine wpExit ?_
    refine hF2 _ _ ?_; clear hF2
    refine wpSeq fun F25 hF25 => ?_
    refine wpRegion ?_
    refine seqQ rfl rfl (yMove (v := .slice _ _ _) rfl rfl) ?_
    refine seqQ rfl rfl (yLen rfl Try.underlying22 rfl) ?_
    refine seqQ rfl rfl (yLeq rfl rfl rfl) ?_
    refine seqQ rfl rfl (yAssign (v := .bool _) rfl rfl) ?_
    refine seqNil ?_
    refine hF25 _ _ ?_; clear hF25
    -- ret
    refine wpRet (fin1 (v := .bool _) rfl rfl ?_)
    exact ⟨by congr 1; rw [decide_eq_decide]; exact ⟨fun h => ⟨ho, by omega⟩, fun h => by have := h.2; omega⟩, hE⟩
set_option maxRecDepth 100000 in
theorem sameI_c (A B : Option Addr) (ca cb : Nat) (a b : List Int) (H : Heap) (hA : Rd eInt H A a) (hB : Rd eInt H B b) (ha : a.length ≤ 1000000000) :
    CallsH Try.prog 14 [.slice A a.length ca, .slice B b.length cb] H fun v H' => v = .bool (decide (a = b)) ∧ H' = H := by
  refine callsH_of Try.func14 rfl Try.ntmps14 (Nat.le_of_ble_eq_true rfl) ?_
  refine wpSeq fun F1 hF1 => ?_
  refine wpRegion ?_
  refine seqQ rfl rfl (yAssign (v := .bool _) rfl rfl) ?_
  refine seqNil ?_
  refine hF1 _ _ ?_; clear hF1
  refine wpSeq fun F2 hF2 => ?_
  refine wpSeq fun F3 hF3 => ?_
  refine wpRegion ?_
  refine seqQ rfl rfl (yMove (v := .slice _ _ _) rfl rfl) ?_
  refine seqQ rfl rfl (yLen rfl Try.underlying27 rfl) ?_
  refine seqQ rfl rfl (yMove (v := .slice _ _ _) rfl rfl) ?_
  refine seqQ rfl rfl (yLen rfl Try.underlying27 rfl) ?_
  refine seqQ rfl rfl (yNeq rfl rfl rfl) ?_
  refine seqNil ?_
  refine hF3 _ _ ?_; clear hF3
  -- if t10
  refine wpCond rfl (fun hl => ?_) (fun hl => ?_)
  · skip
    refine wpSeq fun F4 hF4 => ?_
    refine wpRegion ?_
    refine seqQ rfl rfl (yAssign (v := .bool _) rfl rfl) ?_
    refine seqNil ?_
    refine hF4 _ _ ?_; clear hF4
    -- ret
    refine wpRet (fin1 (v := .bool _) rfl rfl ?_)
    have hl : a.length ≠ b.length := by simp at hl; omega
    exact ⟨by rw [decide_eq_false (fun e => hl (by rw [e]))], rfl⟩
  · skip
    have hl : a.length = b.length := by simp at hl; omega
    refine wpSkip ?_
    refine hF2 _ _ ?_; clear hF2
    refine wpSeq fun F5 hF5 => ?_
    refine wpSeq fun F6 hF6 => ?_
    refine wpRegion ?_
    refine seqQ rfl rfl (yAssign (v := .int _ _) rfl rfl) ?_
    refine seqNil ?_
    refine hF6 _ _ ?_; clear hF6
    -- loop
    refine wpBlock ?_
    refine wpLoopS [4, 5, 11, 12, 13, 14, 15, 16, 17, 18, 19, 20, 21, 22, 23, 24, 25] (fun k : Nat => [(5, .int .i64 k)]) (fun k H' => k ≤ a.length ∧ a.take k = b.take k ∧ H' = H) (fun k => a.length - k) 0 ⟨rfl, trivial⟩ ⟨Nat.zero_le _, rfl, rfl⟩ ?_
    rintro k J H' ⟨hk, he, rfl⟩
    refine wpSeq fun F7 hF7 => ?_
    refine wpSeq fun F8 hF8 => ?_
    refine wpRegion ?_
    refine seqQ rfl rfl (yMove (v := .int _ _) rfl rfl) ?_
    refine seqQ rfl rfl (yMove (v := .slice _ _ _) rfl rfl) ?_
    refine seqQ rfl rfl (yLen rfl Try.underlying27 rfl) ?_
    refine seqQ rfl rfl (yLss rfl rfl rfl) ?_
    refine seqNil ?_
    refine hF8 _ _ ?_; clear hF8
    -- if t14
    refine wpIf rfl (fun hlt => ?_) (fun hlt => ?_)
    · skip
      have hka : k < a.length := by omega
      have hkb : k < b.length := by omega
      obtain ⟨p, rfl, hp⟩ := hA.at1 hka
      obtain ⟨q, rfl, hq⟩ := hB.at1 hkb
      refine wpSkip ?_
      refine hF7 _ _ ?_; clear hF7
      refine wpSeq fun F9 hF9 => ?_
      refine wpBlock ?_
      refine wpSeq fun F10 hF10 => ?_
      refine wpRegionD Try_mixed [.q, .q, .q, .q, .q, .q, .q, .q, .q] 8 [0, 0, 3, 7, 0, 0, 48, 112, 255] [] (by kernel_rfl) _ rfl [0, 1, 2, 3, 4, 5, 6, 7] rfl (by simp) ?_
      refine lexQ rfl rfl rfl rfl (fun H hM => (yMove (v := .slice _ _ _) rfl rfl)) ?_
      refine lexQ rfl rfl rfl rfl (fun H hM => (yMove (v := .int _ _) rfl rfl)) ?_
      refine lexQ rfl rfl rfl rfl (fun H hM => (yIdx1 rfl Try.underlying27 Try.sizeOf3 rfl rfl rfl (by omega))) ?_
      refine lexQ rfl rfl rfl rfl (fun H hM => (yLoad rfl Try.underlying3 rfl rfl (hM.ext.cell hp))) ?_
      refine lexQ rfl rfl rfl rfl (fun H hM => (yMove (v := .slice _ _ _) rfl rfl)) ?_
      refine lexQ rfl rfl rfl rfl (fun H hM => (yMove (v := .int _ _) rfl rfl)) ?_
      refine lexQ rfl rfl rfl rfl (fun H hM => (yIdx1 rfl Try.underlying27 Try.sizeOf3 rfl rfl rfl (by omega))) ?_
      refine lexQ rfl rfl rfl rfl (fun H hM => (yLoad rfl Try.underlying3 rfl rfl (hM.ext.cell hq))) ?_
      -- tail
      refine lexNil0 rfl (fun hM => ?_)
      refine seqQ rfl rfl (yNeq rfl rfl rfl) ?_
      refine seqNil ?_
      refine hF10 _ _ ?_; clear hF10
      -- if t25
      refine wpCond rfl (fun hn => ?_) (fun hn => ?_)
      · skip
        have hn : a[k] ≠ b[k] := by simpa using hn
        refine wpSeq fun F11 hF11 => ?_
        refine wpRegion ?_
        refine seqQ rfl rfl (yAssign (v := .bool _) rfl rfl) ?_
        refine seqNil ?_
        refine hF11 _ _ ?_; clear hF11
        -- ret
        refine wpRet (fin1 (v := .bool _) rfl rfl ?_)
        exact ⟨by rw [decide_eq_false (fun e => hn (by simp [e]))], rfl⟩
      · skip
        have hn : a[k] = b[k] := by simpa using hn
        refine wpSkip ?_
        refine hF9 _ _ ?_; clear hF9
        refine wpRegion ?_
        refine seqQ rfl rfl (yMove (v := .int _ _) rfl rfl) ?_
        refine seqQ rfl rfl (yAdd rfl rfl rfl (by unfold In64; omega)) ?_
        refine seqQ rfl rfl (yAssign (v := .int _ _) rfl rfl) ?_
        refine seqNil ?_
        -- end loop
        exact loopEnd (k + 1) (by repeat (first | (with_reducible exact Agree.refl _ _) | refine Agree.upd ?_ rfl | refine Agree.over ?_ rfl)) (by omega) ⟨rfl, trivial⟩ ⟨hka, by rw [List.take_succ_eq_append_getElem hka, List.take_succ_eq_append_getElem hkb, he, hn], rfl⟩
    · skip
      obtain rfl : k = a.length := by omega
      refine wpExit ?_
      refine hF5 _ _ ?_; clear hF5
      refine wpSeq fun F12 hF12 => ?_
      refine wpRegion ?_
      refine seqQ rfl rfl (yAssign (v := .bool _) rfl rfl) ?_
      refine seqNil ?_
      refine hF12 _ _ ?_; clear hF12
      -- ret
      refine wpRet (fin1 (v := .bool _) rfl rfl ?_)
      rw [List.take_length, hl, List.take_length] at he
      exact ⟨by rw [decide_eq_true he], rfl⟩
set_option maxRecDepth 100000 in
theorem rEqualT_c (A B : Option Addr) (ca cb : Nat) (a b : List Tm) (H : Heap) (hA : Rd eTm H A a) (hB : Rd eTm H B b) (ha : a.length ≤ 1000000000) :
    CallsH Try.prog 12 [.slice A a.length ca, .slice B b.length cb] H fun v H' => v = .bool (decide (a = b)) ∧ H' = H := by
  refine callsH_of Try.func12 rfl Try.ntmps12 (Nat.le_of_ble_eq_true rfl) ?_
  refine wpSeq fun F1 hF1 => ?_
  refine wpRegion ?_
  refine seqQ rfl rfl (yAssign (v := .bool _) rfl rfl) ?_
  refine seqNil ?_
  refine hF1 _ _ ?_; clear hF1
  refine wpSeq fun F2 hF2 => ?_
  refine wpSeq fun F3 hF3 => ?_
  refine wpRegion ?_
  refine seqQ rfl rfl (yMove (v := .slice _ _ _) rfl rfl) ?_
  refine seqQ rfl rfl (yLen rfl Try.underlying22 rfl) ?_
  refine seqQ rfl rfl (yMove (v := .slice _ _ _) rfl rfl) ?_
  refine seqQ rfl rfl (yLen rfl Try.underlying22 rfl) ?_
  refine seqQ rfl rfl (yNeq rfl rfl rfl) ?_
  refine seqNil ?_
  refine hF3 _ _ ?_; clear hF3
  -- if t10
  refine wpCond rfl (fun hl => ?_) (fun hl => ?_)
  · skip
    refine wpSeq fun F4 hF4 => ?_
    refine wpRegion ?_
    refine seqQ rfl rfl (yAssign (v := .bool _) rfl rfl) ?_
    refine seqNil ?_
    refine hF4 _ _ ?_; clear hF4
    -- ret
    refine wpRet (fin1 (v := .bool _) rfl rfl ?_)
    have hl : a.length ≠ b.length := by simp at hl; omega
    exact ⟨by rw [decide_eq_false (fun e => hl (by rw [e]))], rfl⟩
  · skip
    have hl : a.length = b.length := by simp at hl; omega
    refine wpSkip ?_
    refine hF2 _ _ ?_; clear hF2
    refine wpSeq fun F5 hF5 => ?_
    refine wpSeq fun F6 hF6 => ?_
    refine wpRegion ?_
    refine seqQ rfl rfl (yAssign (v := .int _ _) rfl rfl) ?_
    refine seqNil ?_
    refine hF6 _ _ ?_; clear hF6
    -- loop
    refine wpBlock ?_
    refine wpLoopS [4, 5, 11, 12, 13, 14, 15, 16, 17, 18, 19, 20, 21, 22, 23, 24, 25] (fun k : Nat => [(5, .int .i64 k)]) (fun k H' => k ≤ a.length ∧ a.take k = b.take k ∧ H' = H) (fun k => a.length - k) 0 ⟨rfl, trivial⟩ ⟨Nat.zero_le _, rfl, rfl⟩ ?_
    rintro k J H' ⟨hk, he, rfl⟩
    refine wpSeq fun F7 hF7 => ?_
    refine wpSeq fun F8 hF8 => ?_
    refine wpRegion ?_
    refine seqQ rfl rfl (yMove (v := .int _ _) rfl rfl) ?_
    refine seqQ rfl rfl (yMove (v := .slice _ _ _) rfl rfl) ?_
    refine seqQ rfl rfl (yLen rfl Try.underlying22 rfl) ?_
    refine seqQ rfl rfl (yLss rfl rfl rfl) ?_
    refine seqNil ?_
    refine hF8 _ _ ?_; clear hF8
    -- if t14
    refine wpIf rfl (fun hlt => ?_) (fun hlt => ?_)
    · skip
      have hka : k < a.length := by omega
      have hkb : k < b.length := by omega
      obtain ⟨p, ep, hp⟩ := hA.at hka
      obtain ⟨q, eq, hq⟩ := hB.at hkb
      refine wpSkip ?_
      refine hF7 _ _ ?_; clear hF7
      refine wpSeq fun F9 hF9 => ?_
      refine wpBlock ?_
      refine wpSeq fun F10 hF10 => ?_
      refine wpRegionD Try_mixed [.q, .q, .q, .q, .q, .q, .q, .q, .q] 8 [0, 0, 3, 7, 0, 0, 48, 112, 255] [] (by kernel_rfl) _ rfl [0, 1, 2, 3, 4, 5, 6, 7] rfl (by simp) ?_
      refine lexQ rfl rfl rfl rfl (fun H hM => (yMove (v := .slice _ _ _) rfl rfl)) ?_
      refine lexQ rfl rfl rfl rfl (fun H hM => (yMove (v := .int _ _) rfl rfl)) ?_
      refine lexQ rfl rfl rfl rfl (fun H hM => (yIdxP rfl Try.underlying22 Try.sizeOf42 rfl rfl ep rfl hka)) ?_
      refine lexQ rfl rfl rfl rfl (fun H hM => (yLoadC (cs := eTm.F a[k]) rfl Try.underlying42 rfl Try.sizeOf42 rfl (fun j u hu => hM.ext.cell (hp j u hu)))) ?_
      refine lexQ rfl rfl rfl rfl (fun H hM => (yMove (v := .slice _ _ _) rfl rfl)) ?_
      refine lexQ rfl rfl rfl rfl (fun H hM => (yMove (v := .int _ _) rfl rfl)) ?_
      refine lexQ rfl rfl rfl rfl (fun H hM => (yIdxP rfl Try.underlying22 Try.sizeOf42 rfl rfl eq rfl hkb)) ?_
      refine lexQ rfl rfl rfl rfl (fun H hM => (yLoadC (cs := eTm.F b[k]) rfl Try.underlying42 rfl Try.sizeOf42 rfl (fun j u hu => hM.ext.cell (hq j u hu)))) ?_
      -- tail
      refine lexNil0 rfl (fun hM => ?_)
      refine seqQ rfl rfl (yNeqTm (a := a[k]) (b := b[k]) rfl rfl rfl) ?_
      refine seqNil ?_
      refine hF10 _ _ ?_; clear hF10
      -- if t25
      refine wpCond rfl (fun hn => ?_) (fun hn => ?_)
      · skip
        have hn : a[k] ≠ b[k] := by simpa using hn
        refine wpSeq fun F11 hF11 => ?_
        refine wpRegion ?_
        refine seqQ rfl rfl (yAssign (v := .bool _) rfl rfl) ?_
        refine seqNil ?_
        refine hF11 _ _ ?_; clear hF11
        -- ret
        refine wpRet (fin1 (v := .bool _) rfl rfl ?_)
        exact ⟨by rw [decide_eq_false (fun e => hn (by simp [e]))], rfl⟩
      · skip
        have hn : a[k] = b[k] := by simpa using hn
        refine wpSkip ?_
        refine hF9 _ _ ?_; clear hF9
        refine wpRegion ?_
        refine seqQ rfl rfl (yMove (v := .int _ _) rfl rfl) ?_
        refine seqQ rfl rfl (yAdd rfl rfl rfl (by unfold In64; omega)) ?_
        refine seqQ rfl rfl (yAssign (v := .int _ _) rfl rfl) ?_
        refine seqNil ?_
        -- end loop
        exact loopEnd (k + 1) (by repeat (first | (with_reducible exact Agree.refl _ _) | refine Agree.upd ?_ rfl | refine Agree.over ?_ rfl)) (by omega) ⟨rfl, trivial⟩ ⟨hka, by rw [List.take_succ_eq_append_getElem hka, List.take_succ_eq_append_getElem hkb, he, hn], rfl⟩
    · skip
      obtain rfl : k = a.length := by omega
      refine wpExit ?_
      refine hF5 _ _ ?_; clear hF5
      refine wpSeq fun F12 hF12 => ?_
      refine wpRegion ?_
      refine seqQ rfl rfl (yAssign (v := .bool _) rfl rfl) ?_
      refine seqNil ?_
      refine hF12 _ _ ?_; clear hF12
      -- ret
      refine wpRet (fin1 (v := .bool _) rfl rfl ?_)
      rw [List.take_length, hl, List.take_length] at he
      exact ⟨by rw [decide_eq_true he], rfl⟩
/-- The time of a timer. -/
def findT (l : List Tm) (id : Int) : Int × Bool := match l.find? (fun x => decide (x.2 = id)) with
  | some x => (x.1, true)
  | none => (0, false)
set_option maxRecDepth 100000 in
theorem findT_at {l : List Tm} {id : Int} {k : Nat} (hk : k < l.length) (h : ∀ (i : Nat) (hi : i < l.length), i < k → l[i].2 ≠ id) (he : l[k].2 = id) : findT l id = (l[k].1, true) := by
  have e : l.find? (fun x => decide (x.2 = id)) = some l[k] := by
    rw [List.find?_eq_some_iff_getElem]
    exact ⟨by simpa using he, k, hk, rfl, fun j hj => by simpa using h j (by omega) hj⟩
  unfold findT
  rw [e]
set_option maxRecDepth 100000 in
theorem findT_none {l : List Tm} {id : Int} (h : ∀ (i : Nat) (hi : i < l.length), l[i].2 ≠ id) : findT l id = (0, false) := by
  have e : l.find? (fun x => decide (x.2 = id)) = none := by
    rw [List.find?_eq_none]
    intro x hx
    obtain ⟨i, hi, rfl⟩ := List.getElem_of_mem hx
    simpa using h i hi
  unfold findT
  rw [e]
set_option maxRecDepth 100000 in
theorem rFind_c (A : Option Addr) (c : Nat) (l : List Tm) (id : Int) (H : Heap) (hA : Rd eTm H A l) (hl : l.length ≤ 9223372036854775807) :
    CallsH Try.prog 15 [.slice A l.length c, .int .i64 id] H fun v H' => v = .tuple #[.int .i64 (findT l id).1, .bool (findT l id).2] ∧ H' = H := by
  refine callsH_of Try.func15 rfl Try.ntmps15 (Nat.le_of_ble_eq_true rfl) ?_
  refine wpSeq fun F1 hF1 => ?_
  refine wpRegion ?_
  refine seqQ rfl rfl (yAssign (v := .int _ _) rfl rfl) ?_
  refine seqQ rfl rfl (yAssign (v := .bool _) rfl rfl) ?_
  refine seqNil ?_
  refine hF1 _ _ ?_; clear hF1
  refine wpSeq fun F2 hF2 => ?_
  refine wpSeq fun F3 hF3 => ?_
  refine wpRegion ?_
  refine seqQ rfl rfl (yAssign (v := .int _ _) rfl rfl) ?_
  refine seqNil ?_
  refine hF3 _ _ ?_; clear hF3
  -- loop
  refine wpBlock ?_
  refine wpLoopS [4, 5, 6, 7, 8, 9, 10, 11, 12, 13, 14, 15, 16, 17, 18, 19, 20, 21, 22, 23, 24] (fun k : Nat => [(6, .int .i64 k)]) (fun k H' => k ≤ l.length ∧ (∀ (i : Nat) (hi : i < l.length), i < k → l[i].2 ≠ id) ∧ H' = H) (fun k => l.length - k) 0 ⟨rfl, trivial⟩ ⟨Nat.zero_le _, fun i _ hi => absurd hi (by omega), rfl⟩ ?_
  rintro k J H' ⟨hk, ho, rfl⟩
  refine wpSeq fun F4 hF4 => ?_
  refine wpSeq fun F5 hF5 => ?_
  refine wpRegion ?_
  refine seqQ rfl rfl (yMove (v := .int _ _) rfl rfl) ?_
  refine seqQ rfl rfl (yMove (v := .slice _ _ _) rfl rfl) ?_
  refine seqQ rfl rfl (yLen rfl Try.underlying22 rfl) ?_
  refine seqQ rfl rfl (yLss rfl rfl rfl) ?_
  refine seqNil ?_
  refine hF5 _ _ ?_; clear hF5
  -- if t10
  refine wpIf rfl (fun hlt => ?_) (fun hlt => ?_)
  · skip
    have hk : k < l.length := by omega
    obtain ⟨p, ep, hp⟩ := hA.at hk
    refine wpSkip ?_
    refine hF4 _ _ ?_; clear hF4
    refine wpSeq fun F6 hF6 => ?_
    refine wpBlock ?_
    refine wpSeq fun F7 hF7 => ?_
    refine wpRegion ?_
    refine seqQ rfl rfl (yMove (v := .slice _ _ _) rfl rfl) ?_
    refine seqQ rfl rfl (yMove (v := .int _ _) rfl rfl) ?_
    refine seqQ rfl rfl (yIdxP rfl Try.underlying22 Try.sizeOf42 rfl rfl ep rfl hk) ?_
    refine seqQ rfl rfl (yFieldAddr rfl Try.underlying42 rfl Try.sizeOf3 rfl rfl) ?_
    refine seqQ rfl rfl (yLoad rfl Try.underlying3 rfl rfl (hp 1 _ rfl)) ?_
    refine seqQ rfl rfl (yMove (v := .int _ _) rfl rfl) ?_
    refine seqQ rfl rfl (yEql rfl rfl rfl) ?_
    refine seqNil ?_
    refine hF7 _ _ ?_; clear hF7
    -- if t19
    refine wpIf rfl (fun he => ?_) (fun he => ?_)
    · skip
      refine wpSeq fun F8 hF8 => ?_
      refine wpRegion ?_
      refine seqQ rfl rfl (yMove (v := .slice _ _ _) rfl rfl) ?_
      refine seqQ rfl rfl (yMove (v := .int _ _) rfl rfl) ?_
      refine seqQ rfl rfl (yIdxP rfl Try.underlying22 Try.sizeOf42 rfl rfl ep rfl hk) ?_
      refine seqQ rfl rfl (yFieldAddr rfl Try.underlying42 rfl Try.sizeOf3 rfl rfl) ?_
      refine seqQ rfl rfl (yLoad rfl Try.underlying3 rfl rfl (hp 0 _ rfl)) ?_
      refine seqQ rfl rfl (yAssign (v := .int _ _) rfl rfl) ?_
      refine seqQ rfl rfl (yAssign (v := .bool _) rfl rfl) ?_
      refine seqNil ?_
      refine hF8 _ _ ?_; clear hF8
      -- ret
      refine wpRet (fin2 (v := .int _ _) (v' := .bool _) rfl rfl rfl ?_)
      exact ⟨by rw [findT_at hk ho he], rfl⟩
    · skip
      refine wpSkip ?_
      refine hF6 _ _ ?_; clear hF6
      refine wpRegion ?_
      refine seqQ rfl rfl (yMove (v := .int _ _) rfl rfl) ?_
      refine seqQ rfl rfl (yAdd rfl rfl rfl (by unfold In64; omega)) ?_
      refine seqQ rfl rfl (yAssign (v := .int _ _) rfl rfl) ?_
      refine seqNil ?_
      -- end loop
      refine loopEnd (k + 1) (by repeat (first | (with_reducible exact Agree.refl _ _) | refine Agree.upd ?_ rfl | refine Agree.over ?_ rfl)) (by omega) ⟨rfl, trivial⟩ ⟨hk, fun i hi hik => ?_, rfl⟩
      by_cases e : i = k
      · subst e
        exact he
      · exact ho i hi (by omega)
  · skip
    refine wpExit ?_
    refine hF2 _ _ ?_; clear hF2
    refine wpSeq fun F9 hF9 => ?_
    refine wpRegion ?_
    refine seqQ rfl rfl (yAssign (v := .int _ _) rfl rfl) ?_
    refine seqQ rfl rfl (yAssign (v := .bool _) rfl rfl) ?_
    refine seqNil ?_
    refine hF9 _ _ ?_; clear hF9
    -- ret
    refine wpRet (fin2 (v := .int _ _) (v' := .bool _) rfl rfl rfl ?_)
    exact ⟨by rw [findT_none fun i hi => ho i hi (by omega)], rfl⟩
set_option maxRecDepth 100000 in
theorem toT_c (A : Option Addr) (c : Nat) (l : List Tm) (H : Heap) (hA : Rd eTm H A l) (hl : l.length ≤ 1000000000) :
    CallsH Try.prog 11 [.slice A l.length c] H fun v H' => Own eTm 58 H' H.size v l ∧ Ext H H' := by
  refine callsH_of Try.func11 rfl Try.ntmps11 (Nat.le_of_ble_eq_true rfl) ?_
  refine wpSeq fun F1 hF1 => ?_
  refine wpRegion ?_
  refine seqQ rfl rfl (yAssign (v := .slice _ _ _) rfl rfl) ?_
  refine seqNil ?_
  refine hF1 _ _ ?_; clear hF1
  refine wpSeq fun F2 hF2 => ?_
  refine wpRegion ?_
  refine seqQ rfl rfl (yAssign (v := .slice _ _ _) rfl rfl) ?_
  refine seqNil ?_
  refine hF2 _ _ ?_; clear hF2
  refine wpSeq fun F3 hF3 => ?_
  refine wpSeq fun F4 hF4 => ?_
  refine wpRegion ?_
  refine seqQ rfl rfl (yAssign (v := .int _ _) rfl rfl) ?_
  refine seqNil ?_
  refine hF4 _ _ ?_; clear hF4
  -- loop
  refine wpBlock ?_
  refine wpLoopS [3, 4, 5, 6, 7, 8, 9, 10, 11, 12, 13, 14, 15, 16, 17] (fun x : Nat × Option Addr × Nat => [(4, .int .i64 x.1), (3, .slice x.2.1 x.1 x.2.2)]) (fun x H' => x.1 ≤ l.length ∧ Own eTm 58 H' H.size (.slice x.2.1 x.1 x.2.2) (l.take x.1) ∧ Ext H H') (fun x => l.length - x.1) (0, none, 0) ⟨rfl, rfl, trivial⟩ ⟨Nat.zero_le _, Own.nil _ _, Ext.refl _⟩ ?_
  rintro ⟨k, VA, vc⟩ J H' ⟨hk, ow, hE⟩
  dsimp only at hk ow
  refine wpSeq fun F5 hF5 => ?_
  refine wpSeq fun F6 hF6 => ?_
  refine wpRegion ?_
  refine seqQ rfl rfl (yMove (v := .int _ _) rfl rfl) ?_
  refine seqQ rfl rfl (yMove (v := .slice _ _ _) rfl rfl) ?_
  refine seqQ rfl rfl (yLen rfl Try.underlying22 rfl) ?_
  refine seqQ rfl rfl (yLss rfl rfl rfl) ?_
  refine seqNil ?_
  refine hF6 _ _ ?_; clear hF6
  -- if t8
  refine wpIf rfl (fun hlt => ?_) (fun hlt => ?_)
  · skip
    have hk : k < l.length := by dsimp only at hlt; omega
    obtain ⟨p, ep, hp⟩ := (hA.ext hE).at hk
    refine wpSkip ?_
    refine hF5 _ _ ?_; clear hF5
    refine wpSeq fun F7 hF7 => ?_
    refine wpBlock ?_
    refine wpRegion ?_
    refine seqQ rfl rfl (yMove (v := .slice _ _ _) rfl rfl) ?_
    refine seqQ rfl rfl (yMove (v := .slice _ _ _) rfl rfl) ?_
    refine seqQ rfl rfl (yMove (v := .int _ _) rfl rfl) ?_
    refine seqQ rfl rfl (yIdxP rfl Try.underlying22 Try.sizeOf42 rfl rfl ep rfl hk) ?_
    refine seqQ rfl rfl (yLoadC (cs := eTm.F l[k]) rfl Try.underlying42 rfl Try.sizeOf42 rfl hp) ?_
    refine seqN rfl rfl (nBuildSliceN (vs := [.agg _]) rfl Try.underlying26 Try.sizeOf58 Try.zeroValue58 rfl rfl rfl rfl rfl) (fun g16 H16 hx16 hB16 hg16 hl16 => ?_)
    -- e slot 17: builtin append t11 t16 : [26, 26]
    refine seqE rfl rfl (stepApp (c := eTm) (ow.ext hx16) rfl Try.underlying26 elem_eTm rfl (by omega) rfl rfl rfl (Blk.rd (c := eTm) (l := [l[k]]) hB16) (by simp; omega) (by have := hE.size; have := hx16.size; omega) ?_)
    intro v H3 o3 gr
    have x3 : Ext H H3 := gr.ext (hE.trans hx16) (fun g e => (ow.lt g e).1)
    obtain ⟨V3, c3, rfl, -⟩ := o3.form
    have e3 : l.take k ++ [l[k]] = l.take (k + 1) := (List.take_succ_eq_append_getElem hk).symm
    have el : (l.take k ++ [l[k]]).length = k + 1 := by rw [e3, List.length_take]; omega
    rw [el, e3] at o3
    rw [el]
    refine seqQ rfl rfl (yAssign (v := .slice _ _ _) rfl rfl) ?_
    refine seqNil ?_
    refine hF7 _ _ ?_; clear hF7
    refine wpRegion ?_
    refine seqQ rfl rfl (yMove (v := .int _ _) rfl rfl) ?_
    refine seqQ rfl rfl (yAdd rfl rfl rfl (by unfold In64; omega)) ?_
    refine seqQ rfl rfl (yAssign (v := .int _ _) rfl rfl) ?_
    refine seqNil ?_
    -- end loop
    exact loopEnd (k + 1, V3, c3) (by repeat (first | (with_reducible exact Agree.refl _ _) | refine Agree.upd ?_ rfl | refine Agree.over ?_ rfl)) (by dsimp only; omega) ⟨rfl, rfl, trivial⟩ ⟨hk, o3, x3⟩
  · skip
    obtain rfl : k = l.length := by dsimp only at hlt; omega
    rw [List.take_length] at ow
    refine wpExit ?_
    refine hF3 _ _ ?_; clear hF3
    refine wpSeq fun F8 hF8 => ?_
    refine wpRegion ?_
    refine seqQ rfl rfl (yMove (v := .slice _ _ _) rfl rfl) ?_
    refine seqQ rfl rfl (yAssign (v := .slice _ _ _) rfl rfl) ?_
    refine seqNil ?_
    refine hF8 _ _ ?_; clear hF8
    -- ret
    refine wpRet (fin1 (v := .slice _ _ _) rfl rfl ?_)
    exact ⟨ow, hE⟩
set_option maxRecDepth 100000 in
theorem fromT_c (A : Option Addr) (c : Nat) (l : List Tm) (H : Heap) (hA : Rd eTm H A l) (hl : l.length ≤ 1000000000) :
    CallsH Try.prog 13 [.slice A l.length c] H fun v H' => Own eTm 42 H' H.size v l ∧ Ext H H' := by
  refine callsH_of Try.func13 rfl Try.ntmps13 (Nat.le_of_ble_eq_true rfl) ?_
  refine wpSeq fun F1 hF1 => ?_
  refine wpRegion ?_
  refine seqQ rfl rfl (yAssign (v := .slice _ _ _) rfl rfl) ?_
  refine seqNil ?_
  refine hF1 _ _ ?_; clear hF1
  refine wpSeq fun F2 hF2 => ?_
  refine wpRegion ?_
  refine seqQ rfl rfl (yAssign (v := .slice _ _ _) rfl rfl) ?_
  refine seqNil ?_
  refine hF2 _ _ ?_; clear hF2
  refine wpSeq fun F3 hF3 => ?_
  refine wpSeq fun F4 hF4 => ?_
  refine wpRegion ?_
  refine seqQ rfl rfl (yAssign (v := .int _ _) rfl rfl) ?_
  refine seqNil ?_
  refine hF4 _ _ ?_; clear hF4
  -- loop
  refine wpBlock ?_
  refine wpLoopS [3, 4, 5, 6, 7, 8, 9, 10, 11, 12, 13, 14, 15, 16, 17] (fun x : Nat × Option Addr × Nat => [(4, .int .i64 x.1), (3, .slice x.2.1 x.1 x.2.2)]) (fun x H' => x.1 ≤ l.length ∧ Own eTm 42 H' H.size (.slice x.2.1 x.1 x.2.2) (l.take x.1) ∧ Ext H H') (fun x => l.length - x.1) (0, none, 0) ⟨rfl, rfl, trivial⟩ ⟨Nat.zero_le _, Own.nil _ _, Ext.refl _⟩ ?_
  rintro ⟨k, VA, vc⟩ J H' ⟨hk, ow, hE⟩
  dsimp only at hk ow
  refine wpSeq fun F5 hF5 => ?_
  refine wpSeq fun F6 hF6 => ?_
  refine wpRegion ?_
  refine seqQ rfl rfl (yMove (v := .int _ _) rfl rfl) ?_
  refine seqQ rfl rfl (yMove (v := .slice _ _ _) rfl rfl) ?_
  refine seqQ rfl rfl (yLen rfl Try.underlying26 rfl) ?_
  refine seqQ rfl rfl (yLss rfl rfl rfl) ?_
  refine seqNil ?_
  refine hF6 _ _ ?_; clear hF6
  -- if t8
  refine wpIf rfl (fun hlt => ?_) (fun hlt => ?_)
  · skip
    have hk : k < l.length := by dsimp only at hlt; omega
    obtain ⟨p, ep, hp⟩ := (hA.ext hE).at hk
    refine wpSkip ?_
    refine hF5 _ _ ?_; clear hF5
    refine wpSeq fun F7 hF7 => ?_
    refine wpBlock ?_
    refine wpRegion ?_
    refine seqQ rfl rfl (yMove (v := .slice _ _ _) rfl rfl) ?_
    refine seqQ rfl rfl (yMove (v := .slice _ _ _) rfl rfl) ?_
    refine seqQ rfl rfl (yMove (v := .int _ _) rfl rfl) ?_
    refine seqQ rfl rfl (yIdxP rfl Try.underlying26 Try.sizeOf58 rfl rfl ep rfl hk) ?_
    refine seqQ rfl rfl (yLoadC (cs := eTm.F l[k]) rfl Try.underlying58 rfl Try.sizeOf58 rfl hp) ?_
    refine seqN rfl rfl (nBuildSliceN (vs := [.agg _]) rfl Try.underlying22 Try.sizeOf42 Try.zeroValue42 rfl rfl rfl rfl rfl) (fun g16 H16 hx16 hB16 hg16 hl16 => ?_)
    -- e slot 17: builtin append t11 t16 : [22, 22]
    refine seqE rfl rfl (stepApp (c := eTm) (ow.ext hx16) rfl Try.underlying22 elem_eTmr rfl (by omega) rfl rfl rfl (Blk.rd (c := eTm) (l := [l[k]]) hB16) (by simp; omega) (by have := hE.size; have := hx16.size; omega) ?_)
    intro v H3 o3 gr
    have x3 : Ext H H3 := gr.ext (hE.trans hx16) (fun g e => (ow.lt g e).1)
    obtain ⟨V3, c3, rfl, -⟩ := o3.form
    have e3 : l.take k ++ [l[k]] = l.take (k + 1) := (List.take_succ_eq_append_getElem hk).symm
    have el : (l.take k ++ [l[k]]).length = k + 1 := by rw [e3, List.length_take]; omega
    rw [el, e3] at o3
    rw [el]
    refine seqQ rfl rfl (yAssign (v := .slice _ _ _) rfl rfl) ?_
    refine seqNil ?_
    refine hF7 _ _ ?_; clear hF7
    refine wpRegion ?_
    refine seqQ rfl rfl (yMove (v := .int _ _) rfl rfl) ?_
    refine seqQ rfl rfl (yAdd rfl rfl rfl (by unfold In64; omega)) ?_
    refine seqQ rfl rfl (yAssign (v := .int _ _) rfl rfl) ?_
    refine seqNil ?_
    -- end loop
    exact loopEnd (k + 1, V3, c3) (by repeat (first | (with_reducible exact Agree.refl _ _) | refine Agree.upd ?_ rfl | refine Agree.over ?_ rfl)) (by dsimp only; omega) ⟨rfl, rfl, trivial⟩ ⟨hk, o3, x3⟩
  · skip
    obtain rfl : k = l.length := by dsimp only at hlt; omega
    rw [List.take_length] at ow
    refine wpExit ?_
    refine hF3 _ _ ?_; clear hF3
    refine wpSeq fun F8 hF8 => ?_
    refine wpRegion ?_
    refine seqQ rfl rfl (yMove (v := .slice _ _ _) rfl rfl) ?_
    refine seqQ rfl rfl (yAssign (v := .slice _ _ _) rfl rfl) ?_
    refine seqNil ?_
    refine hF8 _ _ ?_; clear hF8
    -- ret
    refine wpRet (fin1 (v := .slice _ _ _) rfl rfl ?_)
    exact ⟨ow, hE⟩
end Go.Proofs.Ytbicgjleomkhdaa
