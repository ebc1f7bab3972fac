/- Logs compared; few entries. -/
import Derived.Test.YtbanngdijmglbaaM7
import Derived.Laws.StructEq
namespace Go.Proofs.Ytbanngdijmglbaa
open Go.RowKit

set_option maxRecDepth 100000 in
theorem Val.eq_iff (a b : Val) : a = b ↔ a.kind = b.kind ∧ a.n = b.n ∧ a.s = b.s := by
  cases a; cases b; simp
instance : DecidableEq Val := fun a b => decidable_of_iff _ (Val.eq_iff a b).symm
set_option maxRecDepth 100000 in
theorem Evt.eq_iff (a b : Evt) : a = b ↔ a.role = b.role ∧ a.send = b.send ∧ a.peer = b.peer ∧ a.label = b.label ∧ a.values = b.values := by
  cases a; cases b; simp
instance : DecidableEq Evt := fun a b => decidable_of_iff _ (Evt.eq_iff a b).symm
set_option maxRecDepth 100000 in
theorem Ent.eq_iff (a b : Ent) : a = b ↔ a.ev = b.ev ∧ a.clk = b.clk := by
  cases a; cases b; simp
instance : DecidableEq Ent := fun a b => decidable_of_iff _ (Ent.eq_iff a b).symm
set_option maxRecDepth 100000 in
theorem part_one (P : Program) {t : TypeId} {cs : Array Value} {off : Nat} {v : Value} {d : TypeDesc} (hd : P.underlying t = some d) (ha : aggD d = false) (hv : cs[off]? = some v) (w : World) : (part t cs off).run P w = .ok v w := by
  simp [part, run_isAgg w hd, ha, hv]
set_option maxRecDepth 100000 in
theorem eqFields_cons {P : Program} {d : Nat} {f : Field} {fs : List Field} {xs ys : Array Value} {a b : Value} {r s : Bool} (hn : f.name ≠ "_") (ha : ∀ w, (part f.type xs f.offset).run P w = .ok a w) (hb : ∀ w, (part f.type ys f.offset).run P w = .ok b w)
    (hr : ∀ w, (Op.equalIn d f.type a b).run P w = .ok r w) (ih : ∀ w, (Op.eqFields d xs ys fs).run P w = .ok s w) (w : World) : (Op.eqFields d xs ys (f :: fs)).run P w = .ok (r && s) w := by
  unfold Op.eqFields
  rw [if_pos hn]
  simp only [Sem.run_bind, ha, hb, hr, Result.andThen_ok]
  cases r
  · simp
  · simp [ih]
set_option maxRecDepth 100000 in
set_option maxRecDepth 100000 in
theorem eq_valW (a b : Val) (w : World) : (Op.equalIn 10000 88 (.agg (eWV.F a).toArray) (.agg (eWV.F b).toArray)).run Try.prog w = .ok (decide (a = b)) w := by
  have hS : Try.prog.underlying 88 = some (.struct (Try.prog.fieldsOf 88)) := by kernel_rfl
  rw [show (10000 : Nat) = 9999 + 1 from rfl, run_equalIn_struct w 9999 88 _ _ hS (by kernel_rfl)]
  simp only [Program.fieldsOf, Try.underlying88]
  have e : decide (a = b) = ((a.kind == b.kind) && ((a.n == b.n) && ((a.s.toList == b.s.toList) && true))) := by
    obtain ⟨a1, a2, a3⟩ := a
    obtain ⟨b1, b2, b3⟩ := b
    simp only [toList_inj, Bool.and_true]
    rw [Bool.eq_iff_iff]
    simp
  rw [e]
  exact eqFields_cons (by decide) (part_one _ Try.underlying3 rfl rfl) (part_one _ Try.underlying3 rfl rfl) (fun w => run_equalIn_int w 9998 _ _ _ _ _ Try.underlying3)
    (eqFields_cons (by decide) (part_one _ Try.underlying3 rfl rfl) (part_one _ Try.underlying3 rfl rfl) (fun w => run_equalIn_int w 9998 _ _ _ _ _ Try.underlying3)
    (eqFields_cons (by decide) (part_one _ Try.underlying9 rfl rfl) (part_one _ Try.underlying9 rfl rfl) (fun w => run_equalIn_string w 9998 _ _ _ Try.underlying9) (fun w => by simp [Op.eqFields]))) w
set_option maxRecDepth 100000 in
theorem yNeqValW {n : Nat} {o : Oper} {E : Env} {H : Heap} {x y : Operand} {yT : TypeId} {a b : Val} (ho : o.op = .binOp .neq 88 x y yT) (hx : ev n E x = .agg (eWV.F a).toArray) (hy : ev n E y = .agg (eWV.F b).toArray) : Yld Try.prog n o E H (.bool (!decide (a = b))) := fun w _ => by
  have hg : (eqGuard .neq 88 x y (.agg (eWV.F a).toArray) (.agg (eWV.F b).toArray)).run Try.prog w = .ok () w := by simp [eqGuard]
  have hb := run_neq_struct (P := Try.prog) w 88 (eWV.F a).toArray (eWV.F b).toArray
  rw [eq_valW] at hb
  simp only [Result.andThen_ok] at hb
  unfold execOp
  simp only [ho, hx, hy]
  simp only [Sem.run_bind, hg, hb, Result.andThen_ok, Sem.run_pure]
set_option maxRecDepth 100000 in
theorem sameVW_c (A B : Option Addr) (ca cb : Nat) (a b : List Val) (H : Heap) (hA : Rd eWV H A a) (hB : Rd eWV H B b) (ha : a.length ≤ 1000000000) :
    CallsH Try.prog 76 [.slice A a.length ca, .slice B b.length cb] H fun v H' => v = .bool (decide (a = b)) ∧ H' = H := by
  refine callsH_of Try.func76 rfl Try.ntmps76 (Nat.le_of_ble_eq_true rfl) ?_
  refine wpSeq fun F1 hF1 => ?_
  refine wpRegion ?_
  refine seqQ rfl rfl (yAssign (v := .bool _) rfl rfl) ?_
  refine seqNil ?_
  refine hF1 _ _ ?_; clear hF1
  refine wpSeq fun F2 hF2 => ?_
  refine wpSeq fun F3 hF3 => ?_
  refine wpRegion ?_
  refine seqQ rfl rfl (yMove (v := .slice _ _ _) rfl rfl) ?_
  refine seqQ rfl rfl (yLen rfl Try.underlying24 rfl) ?_
  refine seqQ rfl rfl (yMove (v := .slice _ _ _) rfl rfl) ?_
  refine seqQ rfl rfl (yLen rfl Try.underlying24 rfl) ?_
  refine seqQ rfl rfl (yNeq rfl rfl rfl) ?_
  refine seqNil ?_
  refine hF3 _ _ ?_; clear hF3
  -- if t10
  refine wpCond rfl (fun hl => ?_) (fun hl => ?_)
  · skip
    refine wpSeq fun F4 hF4 => ?_
    refine wpRegion ?_
    refine seqQ rfl rfl (yAssign (v := .bool _) rfl rfl) ?_
    refine seqNil ?_
    refine hF4 _ _ ?_; clear hF4
    -- ret
    refine wpRet (fin1 (v := .bool _) rfl rfl ?_)
    have hl : a.length ≠ b.length := by simp at hl; omega
    exact ⟨by rw [decide_eq_false (fun e => hl (by rw [e]))], rfl⟩
  · skip
    have hl : a.length = b.length := by simp at hl; omega
    refine wpSkip ?_
    refine hF2 _ _ ?_; clear hF2
    refine wpSeq fun F5 hF5 => ?_
    refine wpSeq fun F6 hF6 => ?_
    refine wpRegion ?_
    refine seqQ rfl rfl (yAssign (v := .int _ _) rfl rfl) ?_
    refine seqNil ?_
    refine hF6 _ _ ?_; clear hF6
    -- loop
    refine wpBlock ?_
    refine wpLoopS [4, 5, 11, 12, 13, 14, 15, 16, 17, 18, 19, 20, 21, 22, 23, 24, 25] (fun k : Nat => [(5, .int .i64 k)]) (fun k H' => k ≤ a.length ∧ a.take k = b.take k ∧ H' = H) (fun k => a.length - k) 0 ⟨rfl, trivial⟩ ⟨Nat.zero_le _, rfl, rfl⟩ ?_
    rintro k J H' ⟨hk, he, rfl⟩
    refine wpSeq fun F7 hF7 => ?_
    refine wpSeq fun F8 hF8 => ?_
    refine wpRegion ?_
    refine seqQ rfl rfl (yMove (v := .int _ _) rfl rfl) ?_
    refine seqQ rfl rfl (yMove (v := .slice _ _ _) rfl rfl) ?_
    refine seqQ rfl rfl (yLen rfl Try.underlying24 rfl) ?_
    refine seqQ rfl rfl (yLss rfl rfl rfl) ?_
    refine seqNil ?_
    refine hF8 _ _ ?_; clear hF8
    -- if t14
    refine wpIf rfl (fun hlt => ?_) (fun hlt => ?_)
    · skip
      have hka : k < a.length := by omega
      have hkb : k < b.length := by omega
      obtain ⟨p, rfl, hp⟩ := hA.at hka
      obtain ⟨q, rfl, hq⟩ := hB.at hkb
      refine wpSkip ?_
      refine hF7 _ _ ?_; clear hF7
      refine wpSeq fun F9 hF9 => ?_
      refine wpBlock ?_
      refine wpSeq fun F10 hF10 => ?_
      refine wpRegionD Try_mixed [.q, .q, .q, .q, .q, .q, .q, .q, .q] 8 [0, 0, 3, 7, 0, 0, 48, 112, 255] [] (by kernel_rfl) _ rfl [0, 1, 2, 3, 4, 5, 6, 7] rfl (by simp) ?_
      refine lexQ rfl rfl rfl rfl (fun H hM => (yMove (v := .slice _ _ _) rfl rfl)) ?_
      refine lexQ rfl rfl rfl rfl (fun H hM => (yMove (v := .int _ _) rfl rfl)) ?_
      refine lexQ rfl rfl rfl rfl (fun H hM => (yIdx rfl Try.underlying24 Try.sizeOf88 rfl rfl rfl (by omega))) ?_
      refine lexQ rfl rfl rfl rfl (fun H hM => (yLoadC (cs := eWV.F a[k]) rfl Try.underlying88 rfl Try.sizeOf88 rfl (fun j u hu => hM.ext.cell (hp j u hu)))) ?_
      refine lexQ rfl rfl rfl rfl (fun H hM => (yMove (v := .slice _ _ _) rfl rfl)) ?_
      refine lexQ rfl rfl rfl rfl (fun H hM => (yMove (v := .int _ _) rfl rfl)) ?_
      refine lexQ rfl rfl rfl rfl (fun H hM => (yIdx rfl Try.underlying24 Try.sizeOf88 rfl rfl rfl (by omega))) ?_
      refine lexQ rfl rfl rfl rfl (fun H hM => (yLoadC (cs := eWV.F b[k]) rfl Try.underlying88 rfl Try.sizeOf88 rfl (fun j u hu => hM.ext.cell (hq j u hu)))) ?_
      -- tail
      refine lexNil0 rfl (fun hM => ?_)
      refine seqQ rfl rfl (yNeqValW rfl rfl rfl) ?_
      refine seqNil ?_
      refine hF10 _ _ ?_; clear hF10
      -- if t25
      refine wpCond rfl (fun hn => ?_) (fun hn => ?_)
      · skip
        have hn : a[k] ≠ b[k] := by simpa using hn
        refine wpSeq fun F11 hF11 => ?_
        refine wpRegion ?_
        refine seqQ rfl rfl (yAssign (v := .bool _) rfl rfl) ?_
        refine seqNil ?_
        refine hF11 _ _ ?_; clear hF11
        -- ret
        refine wpRet (fin1 (v := .bool _) rfl rfl ?_)
        exact ⟨by rw [decide_eq_false (fun e => hn (by simp [e]))], rfl⟩
      · skip
        have hn : a[k] = b[k] := by simpa using hn
        refine wpSkip ?_
        refine hF9 _ _ ?_; clear hF9
        refine wpRegion ?_
        refine seqQ rfl rfl (yMove (v := .int _ _) rfl rfl) ?_
        refine seqQ rfl rfl (yAdd rfl rfl rfl (by unfold In64; omega)) ?_
        refine seqQ rfl rfl (yAssign (v := .int _ _) rfl rfl) ?_
        refine seqNil ?_
        -- end loop
        exact loopEnd (k + 1) (by repeat (first | (with_reducible exact Agree.refl _ _) | refine Agree.upd ?_ rfl | refine Agree.over ?_ rfl)) (by omega) ⟨rfl, trivial⟩ ⟨hka, by rw [List.take_succ_eq_append_getElem hka, List.take_succ_eq_append_getElem hkb, he, hn], rfl⟩
    · skip
      obtain rfl : k = a.length := by omega
      refine wpExit ?_
      refine hF5 _ _ ?_; clear hF5
      refine wpSeq fun F12 hF12 => ?_
      refine wpRegion ?_
      refine seqQ rfl rfl (yAssign (v := .bool _) rfl rfl) ?_
      refine seqNil ?_
      refine hF12 _ _ ?_; clear hF12
      -- ret
      refine wpRet (fin1 (v := .bool _) rfl rfl ?_)
      rw [List.take_length, hl, List.take_length] at he
      exact ⟨by rw [decide_eq_true he], rfl⟩
set_option maxRecDepth 100000 in
theorem sameEvent_c (x y : Evt) (A B : Option Addr) (ca cb : Nat) (H : Heap) (hA : Rd eWV H A x.values) (hB : Rd eWV H B y.values) (hl : x.values.length ≤ 1000000000) :
    CallsH Try.prog 48 [.agg (evC x A ca).toArray, .agg (evC y B cb).toArray] H fun v H' => v = .bool (decide (x = y)) ∧ Ext H H' := by
  refine callsH_of Try.func48 rfl Try.ntmps48 (Nat.le_of_ble_eq_true rfl) ?_
  refine wpSeq fun F1 hF1 => ?_
  refine wpRegion ?_
  refine seqN rfl rfl (nBoxA rfl rfl) (fun g2 H2 hx2 hB2 hg2 hl2 => ?_)
  refine seqN rfl rfl (nBoxA rfl rfl) (fun g3 H3 hx3 hB3 hg3 hl3 => ?_)
  refine seqQ rfl rfl (yAssign (v := .bool _) rfl rfl) ?_
  refine seqNil ?_
  refine hF1 _ _ ?_; clear hF1
  refine wpSeq fun F2 hF2 => ?_
  refine wpRegion ?_
  refine seqQ rfl rfl (yFieldAddr rfl Try.underlying26 rfl Try.sizeOf3 rfl rfl) ?_
  refine seqQ rfl rfl (yLoad rfl Try.underlying3 rfl rfl ((hB2.ext hx3).cell rfl)) ?_
  refine seqQ rfl rfl (yFieldAddr rfl Try.underlying26 rfl Try.sizeOf3 rfl rfl) ?_
  refine seqQ rfl rfl (yLoad rfl Try.underlying3 rfl rfl (hB3.cell rfl)) ?_
  refine seqQ rfl rfl (yEql rfl rfl rfl) ?_
  first | refine seqG rfl rfl rfl rfl (fun h10 => ?_) (fun h10 => ?_) | refine seqGB rfl rfl rfl rfl (fun h10 => ?_) (fun h10 => ?_)
  rotate_left
  · skip
    refine seqU rfl rfl ?_
    refine seqU rfl rfl ?_
    refine seqU rfl rfl ?_
    refine seqU rfl rfl ?_
    refine seqU rfl rfl ?_
    refine seqQ rfl rfl (yPickF (v := .bool _) rfl rfl rfl) ?_
    refine seqQ rfl rfl (yMove (v := .bool false) rfl rfl) ?_
    refine seqU rfl rfl ?_
    refine seqU rfl rfl ?_
    refine seqU rfl rfl ?_
    refine seqU rfl rfl ?_
    refine seqU rfl rfl ?_
    refine seqQ rfl rfl (yPickF (v := .bool _) rfl rfl rfl) ?_
    refine seqQ rfl rfl (yMove (v := .bool false) rfl rfl) ?_
    refine seqU rfl rfl ?_
    refine seqU rfl rfl ?_
    refine seqU rfl rfl ?_
    refine seqU rfl rfl ?_
    refine seqU rfl rfl ?_
    refine seqQ rfl rfl (yPickF (v := .bool _) rfl rfl rfl) ?_
    refine seqQ rfl rfl (yMove (v := .bool false) rfl rfl) ?_
    refine seqU rfl rfl ?_
    refine seqU rfl rfl ?_
    refine seqU rfl rfl ?_
    refine seqU rfl rfl ?_
    refine seqU rfl rfl ?_
    refine seqQ rfl rfl (yPickF (v := .bool _) rfl rfl rfl) ?_
    refine seqQ rfl rfl (yAssign (v := .bool _) rfl rfl) ?_
    refine seqNil ?_
    refine hF2 _ _ ?_; clear hF2
    refine wpRet (fin1 (v := .bool _) rfl rfl ?_)
    exact ⟨by rw [decide_eq_false (by rw [Evt.eq_iff]; simp_all)], hx2.trans hx3⟩
  refine seqQ rfl rfl (yFieldAddr rfl Try.underlying26 rfl Try.sizeOf4 rfl rfl) ?_
  refine seqQ rfl rfl (yLoad rfl Try.underlying4 rfl rfl ((hB2.ext hx3).cell rfl)) ?_
  refine seqQ rfl rfl (yFieldAddr rfl Try.underlying26 rfl Try.sizeOf4 rfl rfl) ?_
  refine seqQ rfl rfl (yLoad rfl Try.underlying4 rfl rfl (hB3.cell rfl)) ?_
  refine seqQ rfl rfl (yEqlB rfl Try.underlying4 rfl rfl) ?_
  refine seqQ rfl rfl (yPickT (v := .bool _) rfl rfl rfl) ?_
  first | refine seqG rfl rfl rfl rfl (fun h17 => ?_) (fun h17 => ?_) | refine seqGB rfl rfl rfl rfl (fun h17 => ?_) (fun h17 => ?_)
  rotate_left
  · skip
    refine seqU rfl rfl ?_
    refine seqU rfl rfl ?_
    refine seqU rfl rfl ?_
    refine seqU rfl rfl ?_
    refine seqU rfl rfl ?_
    refine seqQ rfl rfl (yPickF (v := .bool _) rfl rfl rfl) ?_
    refine seqQ rfl rfl (yMove (v := .bool false) rfl rfl) ?_
    refine seqU rfl rfl ?_
    refine seqU rfl rfl ?_
    refine seqU rfl rfl ?_
    refine seqU rfl rfl ?_
    refine seqU rfl rfl ?_
    refine seqQ rfl rfl (yPickF (v := .bool _) rfl rfl rfl) ?_
    refine seqQ rfl rfl (yMove (v := .bool false) rfl rfl) ?_
    refine seqU rfl rfl ?_
    refine seqU rfl rfl ?_
    refine seqU rfl rfl ?_
    refine seqU rfl rfl ?_
    refine seqU rfl rfl ?_
    refine seqQ rfl rfl (yPickF (v := .bool _) rfl rfl rfl) ?_
    refine seqQ rfl rfl (yAssign (v := .bool _) rfl rfl) ?_
    refine seqNil ?_
    refine hF2 _ _ ?_; clear hF2
    refine wpRet (fin1 (v := .bool _) rfl rfl ?_)
    exact ⟨by rw [decide_eq_false (by rw [Evt.eq_iff]; simp_all)], hx2.trans hx3⟩
  refine seqQ rfl rfl (yFieldAddr rfl Try.underlying26 rfl Try.sizeOf3 rfl rfl) ?_
  refine seqQ rfl rfl (yLoad rfl Try.underlying3 rfl rfl ((hB2.ext hx3).cell rfl)) ?_
  refine seqQ rfl rfl (yFieldAddr rfl Try.underlying26 rfl Try.sizeOf3 rfl rfl) ?_
  refine seqQ rfl rfl (yLoad rfl Try.underlying3 rfl rfl (hB3.cell rfl)) ?_
  refine seqQ rfl rfl (yEql rfl rfl rfl) ?_
  refine seqQ rfl rfl (yPickT (v := .bool _) rfl rfl rfl) ?_
  first | refine seqG rfl rfl rfl rfl (fun h24 => ?_) (fun h24 => ?_) | refine seqGB rfl rfl rfl rfl (fun h24 => ?_) (fun h24 => ?_)
  rotate_left
  · skip
    refine seqU rfl rfl ?_
    refine seqU rfl rfl ?_
    refine seqU rfl rfl ?_
    refine seqU rfl rfl ?_
    refine seqU rfl rfl ?_
    refine seqQ rfl rfl (yPickF (v := .bool _) rfl rfl rfl) ?_
    refine seqQ rfl rfl (yMove (v := .bool false) rfl rfl) ?_
    refine seqU rfl rfl ?_
    refine seqU rfl rfl ?_
    refine seqU rfl rfl ?_
    refine seqU rfl rfl ?_
    refine seqU rfl rfl ?_
    refine seqQ rfl rfl (yPickF (v := .bool _) rfl rfl rfl) ?_
    refine seqQ rfl rfl (yAssign (v := .bool _) rfl rfl) ?_
    refine seqNil ?_
    refine hF2 _ _ ?_; clear hF2
    refine wpRet (fin1 (v := .bool _) rfl rfl ?_)
    exact ⟨by rw [decide_eq_false (by rw [Evt.eq_iff]; simp_all)], hx2.trans hx3⟩
  refine seqQ rfl rfl (yFieldAddr rfl Try.underlying26 rfl Try.sizeOf3 rfl rfl) ?_
  refine seqQ rfl rfl (yLoad rfl Try.underlying3 rfl rfl ((hB2.ext hx3).cell rfl)) ?_
  refine seqQ rfl rfl (yFieldAddr rfl Try.underlying26 rfl Try.sizeOf3 rfl rfl) ?_
  refine seqQ rfl rfl (yLoad rfl Try.underlying3 rfl rfl (hB3.cell rfl)) ?_
  refine seqQ rfl rfl (yEql rfl rfl rfl) ?_
  refine seqQ rfl rfl (yPickT (v := .bool _) rfl rfl rfl) ?_
  first | refine seqG rfl rfl rfl rfl (fun h31 => ?_) (fun h31 => ?_) | refine seqGB rfl rfl rfl rfl (fun h31 => ?_) (fun h31 => ?_)
  rotate_left
  · skip
    refine seqU rfl rfl ?_
    refine seqU rfl rfl ?_
    refine seqU rfl rfl ?_
    refine seqU rfl rfl ?_
    refine seqU rfl rfl ?_
    refine seqQ rfl rfl (yPickF (v := .bool _) rfl rfl rfl) ?_
    refine seqQ rfl rfl (yAssign (v := .bool _) rfl rfl) ?_
    refine seqNil ?_
    refine hF2 _ _ ?_; clear hF2
    refine wpRet (fin1 (v := .bool _) rfl rfl ?_)
    exact ⟨by rw [decide_eq_false (by rw [Evt.eq_iff]; simp_all)], hx2.trans hx3⟩
  refine seqQ rfl rfl (yFieldAddr rfl Try.underlying26 rfl Try.sizeOf24 rfl rfl) ?_
  refine seqQ rfl rfl (yLoad rfl Try.underlying24 rfl rfl ((hB2.ext hx3).cell rfl)) ?_
  refine seqQ rfl rfl (yFieldAddr rfl Try.underlying26 rfl Try.sizeOf24 rfl rfl) ?_
  refine seqQ rfl rfl (yLoad rfl Try.underlying24 rfl rfl (hB3.cell rfl)) ?_
  -- e slot 36: call F76<farandole/farandoleref01.SameValues> t33 t35
  refine seqE rfl rfl (stepCall rfl Try.call76 rfl ?_)
  refine (sameVW_c A B ca cb x.values y.values _ ((hA.ext hx2).ext hx3) ((hB.ext hx2).ext hx3) hl).mono ?_
  rintro v H1 ⟨rfl, rfl⟩
  refine seqQ rfl rfl (yPickT (v := .bool _) rfl rfl rfl) ?_
  refine seqQ rfl rfl (yAssign (v := .bool _) rfl rfl) ?_
  refine seqNil ?_
  refine hF2 _ _ ?_; clear hF2
  -- ret
  refine wpRet (fin1 (v := .bool _) rfl rfl ?_)
  refine ⟨?_, hx2.trans hx3⟩
  congr 1
  rw [Bool.eq_iff_iff]
  simp_all [Evt.eq_iff]
/-- An event, as it lies in a slice. -/
structure VH where
  ev : Evt
  VA : Option Addr
  vc : Nat
def vhF (x : VH) : List Value := evC x.ev x.VA x.vc
def eVH : El VH := ⟨vhF, 5, by omega, fun _ => rfl, fun x u hu => by
  simp only [vhF, evC, List.mem_cons, List.not_mem_nil, or_false] at hu
  rcases hu with rfl | rfl | rfl | rfl | rfl <;> rfl⟩
set_option maxRecDepth 100000 in
theorem elem_evt : Elem Try.prog 26 (.agg #[.int .i64 0, .bool false, .int .i64 0, .int .i64 0, .slice none 0 0]) 5 56 := by unfold Elem; kernel_rfl
/-- Events in memory. -/
def EvsRd (H : Heap) (A : Option Addr) (l : List VH) : Prop := Rd eVH H A l ∧ ∀ x ∈ l, Rd eWV H x.VA x.ev.values
set_option maxRecDepth 100000 in
theorem EvsRd.ext {H H' : Heap} {A : Option Addr} {l : List VH} (h : EvsRd H A l) (hx : Ext H H') : EvsRd H' A l := ⟨h.1.ext hx, fun x hm => (h.2 x hm).ext hx⟩
set_option maxRecDepth 100000 in
theorem take_map_succ {α β : Type} (f : α → β) {l : List α} {k : Nat} (h : k < l.length) : (l.map f).take (k + 1) = (l.map f).take k ++ [f l[k]] := by
  rw [List.take_succ_eq_append_getElem (by simpa using h), List.getElem_map]
set_option maxRecDepth 100000 in
theorem map_ne {α β : Type} (f : α → β) {a b : List α} {k : Nat} (ha : k < a.length) (hb : k < b.length) (h : ¬ f a[k] = f b[k]) : a.map f ≠ b.map f := fun e => h (by
  have := congrArg (fun l => l[k]?) e
  simpa [ha, hb] using this)
set_option maxRecDepth 100000 in
theorem sameEvents_c (a b : List VH) (A B : Option Addr) (ca cb : Nat) (H : Heap) (hA : EvsRd H A a) (hB : EvsRd H B b) (ha : a.length ≤ 1000000000) (hv : ∀ x ∈ a, x.ev.values.length ≤ 1000000000) :
    CallsH Try.prog 21 [.slice A a.length ca, .slice B b.length cb] H fun v H' => v = .bool (decide (a.map VH.ev = b.map VH.ev)) ∧ Ext H H' := by
  refine callsH_of Try.func21 rfl Try.ntmps21 (Nat.le_of_ble_eq_true rfl) ?_
  refine wpSeq fun F1 hF1 => ?_
  refine wpRegion ?_
  refine seqQ rfl rfl (yAssign (v := .bool _) rfl rfl) ?_
  refine seqNil ?_
  refine hF1 _ _ ?_; clear hF1
  refine wpSeq fun F2 hF2 => ?_
  refine wpSeq fun F3 hF3 => ?_
  refine wpRegion ?_
  refine seqQ rfl rfl (yMove (v := .slice _ _ _) rfl rfl) ?_
  refine seqQ rfl rfl (yLen rfl Try.underlying51 rfl) ?_
  refine seqQ rfl rfl (yMove (v := .slice _ _ _) rfl rfl) ?_
  refine seqQ rfl rfl (yLen rfl Try.underlying51 rfl) ?_
  refine seqQ rfl rfl (yNeq rfl rfl rfl) ?_
  refine seqNil ?_
  refine hF3 _ _ ?_; clear hF3
  -- if t10
  refine wpCond rfl (fun hl => ?_) (fun hl => ?_)
  · skip
    refine wpSeq fun F4 hF4 => ?_
    refine wpRegion ?_
    refine seqQ rfl rfl (yAssign (v := .bool _) rfl rfl) ?_
    refine seqNil ?_
    refine hF4 _ _ ?_; clear hF4
    -- ret
    refine wpRet (fin1 (v := .bool _) rfl rfl ?_)
    have hl : a.length ≠ b.length := by simp at hl; omega
    exact ⟨by rw [decide_eq_false (fun e => hl (by have := congrArg List.length e; simpa using this))], Ext.refl _⟩
  · skip
    have hl : a.length = b.length := by simp at hl; omega
    refine wpSkip ?_
    refine hF2 _ _ ?_; clear hF2
    refine wpSeq fun F5 hF5 => ?_
    refine wpSeq fun F6 hF6 => ?_
    refine wpRegion ?_
    refine seqQ rfl rfl (yAssign (v := .int _ _) rfl rfl) ?_
    refine seqNil ?_
    refine hF6 _ _ ?_; clear hF6
    -- loop
    refine wpBlock ?_
    refine wpLoopS [4, 5, 11, 12, 13, 14, 15, 16, 17, 18, 19, 20, 21, 22, 23, 24, 25, 26] (fun k : Nat => [(5, .int .i64 k)]) (fun k H' => k ≤ a.length ∧ (a.map VH.ev).take k = (b.map VH.ev).take k ∧ Ext H H') (fun k => a.length - k) 0 ⟨rfl, trivial⟩ ⟨Nat.zero_le _, rfl, Ext.refl _⟩ ?_
    rintro k J H1 ⟨hk, he, hE⟩
    refine wpSeq fun F7 hF7 => ?_
    refine wpSeq fun F8 hF8 => ?_
    refine wpRegion ?_
    refine seqQ rfl rfl (yMove (v := .int _ _) rfl rfl) ?_
    refine seqQ rfl rfl (yMove (v := .slice _ _ _) rfl rfl) ?_
    refine seqQ rfl rfl (yLen rfl Try.underlying51 rfl) ?_
    refine seqQ rfl rfl (yLss rfl rfl rfl) ?_
    refine seqNil ?_
    refine hF8 _ _ ?_; clear hF8
    -- if t14
    refine wpIf rfl (fun hlt => ?_) (fun hlt => ?_)
    · skip
      have hka : k < a.length := by omega
      have hkb : k < b.length := by omega
      obtain ⟨p, ep, hp⟩ := (hA.1.ext hE).at hka
      obtain ⟨q, eq, hq⟩ := (hB.1.ext hE).at hkb
      have rA := (hA.2 _ (List.getElem_mem hka)).ext hE
      have rB := (hB.2 _ (List.getElem_mem hkb)).ext hE
      have hvk := hv _ (List.getElem_mem hka)
      have tA := take_map_succ VH.ev hka
      have tB := take_map_succ VH.ev hkb
      have hne := map_ne VH.ev hka hkb
      generalize a[k] = x at *
      generalize b[k] = y at *
      refine wpSkip ?_
      refine hF7 _ _ ?_; clear hF7
      refine wpSeq fun F9 hF9 => ?_
      refine wpBlock ?_
      refine wpSeq fun F10 hF10 => ?_
      refine wpRegionD Try_mixed [.q, .q, .q, .q, .q, .q, .q, .q, .e, .q] 8 [0, 0, 3, 7, 0, 0, 48, 112, 255, 511] [] (by kernel_rfl) _ rfl [0, 1, 2, 3, 4, 5, 6, 7] rfl (by simp) ?_
      refine lexQ rfl rfl rfl rfl (fun H hM => (yMove (v := .slice _ _ _) rfl rfl)) ?_
      refine lexQ rfl rfl rfl rfl (fun H hM => (yMove (v := .int _ _) rfl rfl)) ?_
      refine lexQ rfl rfl rfl rfl (fun H hM => (yIdxP rfl Try.underlying51 Try.sizeOf26 rfl rfl ep rfl (by omega))) ?_
      refine lexQ rfl rfl rfl rfl (fun H hM => (yLoadC (cs := evC x.ev x.VA x.vc) rfl Try.underlying26 rfl Try.sizeOf26 rfl (fun j u hu => hM.ext.cell (hp j u hu)))) ?_
      refine lexQ rfl rfl rfl rfl (fun H hM => (yMove (v := .slice _ _ _) rfl rfl)) ?_
      refine lexQ rfl rfl rfl rfl (fun H hM => (yMove (v := .int _ _) rfl rfl)) ?_
      refine lexQ rfl rfl rfl rfl (fun H hM => (yIdxP rfl Try.underlying51 Try.sizeOf26 rfl rfl eq rfl (by omega))) ?_
      refine lexQ rfl rfl rfl rfl (fun H hM => (yLoadC (cs := evC y.ev y.VA y.vc) rfl Try.underlying26 rfl Try.sizeOf26 rfl (fun j u hu => hM.ext.cell (hq j u hu)))) ?_
      -- tail
      refine lexNil0 rfl (fun hM => ?_)
      -- e slot 25: call F48<farandole/farandoleref01.SameEvent> t20 t24
      refine seqE rfl rfl (stepCall rfl Try.call48 rfl ?_)
      refine (sameEvent_c x.ev y.ev x.VA y.VA x.vc y.vc H1 rA rB hvk).mono ?_
      rintro v H2 ⟨rfl, x2⟩
      refine seqQ rfl rfl (yNot rfl rfl) ?_
      refine seqNil ?_
      refine hF10 _ _ ?_; clear hF10
      -- if t26
      refine wpCond rfl (fun hn => ?_) (fun hn => ?_)
      · skip
        have hn : ¬ x.ev = y.ev := by simpa using hn
        refine wpSeq fun F11 hF11 => ?_
        refine wpRegion ?_
        refine seqQ rfl rfl (yAssign (v := .bool _) rfl rfl) ?_
        refine seqNil ?_
        refine hF11 _ _ ?_; clear hF11
        -- ret
        refine wpRet (fin1 (v := .bool _) rfl rfl ?_)
        exact ⟨by rw [decide_eq_false (hne hn)], hE.trans x2⟩
      · skip
        have hn : x.ev = y.ev := by simpa using hn
        refine wpSkip ?_
        refine hF9 _ _ ?_; clear hF9
        refine wpRegion ?_
        refine seqQ rfl rfl (yMove (v := .int _ _) rfl rfl) ?_
        refine seqQ rfl rfl (yAdd rfl rfl rfl (by unfold In64; omega)) ?_
        refine seqQ rfl rfl (yAssign (v := .int _ _) rfl rfl) ?_
        refine seqNil ?_
        -- end loop
        exact loopEnd (k + 1) (by repeat (first | (with_reducible exact Agree.refl _ _) | refine Agree.upd ?_ rfl | refine Agree.over ?_ rfl)) (by omega) ⟨rfl, trivial⟩ ⟨hka, by rw [tA, tB, he, hn], hE.trans x2⟩
    · skip
      obtain rfl : k = a.length := by omega
      refine wpExit ?_
      refine hF5 _ _ ?_; clear hF5
      refine wpSeq fun F12 hF12 => ?_
      refine wpRegion ?_
      refine seqQ rfl rfl (yAssign (v := .bool _) rfl rfl) ?_
      refine seqNil ?_
      refine hF12 _ _ ?_; clear hF12
      -- ret
      refine wpRet (fin1 (v := .bool _) rfl rfl ?_)
      rw [List.take_of_length_le (by simp), List.take_of_length_le (by simp; omega)] at he
      exact ⟨by rw [decide_eq_true he], hE⟩
set_option maxRecDepth 100000 in
theorem sameLog_c (a b : List EH) (A B : Option Addr) (ca cb : Nat) (H : Heap) (hA : LogRd H A a) (hB : LogRd H B b) (ha : LogSm a) (hb : ∀ x ∈ b, x.clk.length ≤ 1000000000) :
    CallsH Try.prog 19 [.slice A a.length ca, .slice B b.length cb] H fun v H' => v = .bool (decide (a.map EH.ent = b.map EH.ent)) ∧ Ext H H' := by
  have s1 := ha.1
  refine callsH_of Try.func19 rfl Try.ntmps19 (Nat.le_of_ble_eq_true rfl) ?_
  refine wpSeq fun F1 hF1 => ?_
  refine wpRegion ?_
  refine seqQ rfl rfl (yAssign (v := .bool _) rfl rfl) ?_
  refine seqNil ?_
  refine hF1 _ _ ?_; clear hF1
  refine wpSeq fun F2 hF2 => ?_
  refine wpSeq fun F3 hF3 => ?_
  refine wpRegion ?_
  refine seqQ rfl rfl (yMove (v := .slice _ _ _) rfl rfl) ?_
  refine seqQ rfl rfl (yLen rfl Try.underlying23 rfl) ?_
  refine seqQ rfl rfl (yMove (v := .slice _ _ _) rfl rfl) ?_
  refine seqQ rfl rfl (yLen rfl Try.underlying23 rfl) ?_
  refine seqQ rfl rfl (yNeq rfl rfl rfl) ?_
  refine seqNil ?_
  refine hF3 _ _ ?_; clear hF3
  -- if t10
  refine wpCond rfl (fun hl => ?_) (fun hl => ?_)
  · skip
    refine wpSeq fun F4 hF4 => ?_
    refine wpRegion ?_
    refine seqQ rfl rfl (yAssign (v := .bool _) rfl rfl) ?_
    refine seqNil ?_
    refine hF4 _ _ ?_; clear hF4
    -- ret
    refine wpRet (fin1 (v := .bool _) rfl rfl ?_)
    have hl : a.length ≠ b.length := by simp at hl; omega
    exact ⟨by rw [decide_eq_false (fun e => hl (by have := congrArg List.length e; simpa using this))], Ext.refl _⟩
  · skip
    have hl : a.length = b.length := by simp at hl; omega
    refine wpSkip ?_
    refine hF2 _ _ ?_; clear hF2
    refine wpSeq fun F5 hF5 => ?_
    refine wpSeq fun F6 hF6 => ?_
    refine wpRegion ?_
    refine seqQ rfl rfl (yAssign (v := .int _ _) rfl rfl) ?_
    refine seqNil ?_
    refine hF6 _ _ ?_; clear hF6
    -- loop
    refine wpBlock ?_
    refine wpLoopS [4, 5, 11, 12, 13, 14, 15, 16, 17, 18, 19, 20, 21, 22, 23, 24, 25, 26, 27, 28, 29, 30, 31, 32, 33, 34, 35, 36, 37, 38, 39, 40, 41, 42] (fun k : Nat => [(5, .int .i64 k)]) (fun k H' => k ≤ a.length ∧ (a.map EH.ent).take k = (b.map EH.ent).take k ∧ Ext H H') (fun k => a.length - k) 0 ⟨rfl, trivial⟩ ⟨Nat.zero_le _, rfl, Ext.refl _⟩ ?_
    rintro k J H1 ⟨hk, he, hE⟩
    refine wpSeq fun F7 hF7 => ?_
    refine wpSeq fun F8 hF8 => ?_
    refine wpRegion ?_
    refine seqQ rfl rfl (yMove (v := .int _ _) rfl rfl) ?_
    refine seqQ rfl rfl (yMove (v := .slice _ _ _) rfl rfl) ?_
    refine seqQ rfl rfl (yLen rfl Try.underlying23 rfl) ?_
    refine seqQ rfl rfl (yLss rfl rfl rfl) ?_
    refine seqNil ?_
    refine hF8 _ _ ?_; clear hF8
    -- if t14
    refine wpIf rfl (fun hlt => ?_) (fun hlt => ?_)
    · skip
      have hka : k < a.length := by omega
      have hkb : k < b.length := by omega
      obtain ⟨p, ep, hp⟩ := (hA.1.ext hE).at hka
      obtain ⟨q, eq, hq⟩ := (hB.1.ext hE).at hkb
      have rA := (hA.2 _ (List.getElem_mem hka)).ext hE
      have rB := (hB.2 _ (List.getElem_mem hkb)).ext hE
      have hvk := ha.2 _ (List.getElem_mem hka)
      have hbk := hb _ (List.getElem_mem hkb)
      have tA := take_map_succ EH.ent hka
      have tB := take_map_succ EH.ent hkb
      have hne := map_ne EH.ent hka hkb
      generalize a[k] = x at *
      generalize b[k] = y at *
      rw [show (x.ent = y.ent) = (x.ev = y.ev ∧ x.clk = y.clk) from propext (Ent.eq_iff _ _)] at hne
      refine wpSkip ?_
      refine hF7 _ _ ?_; clear hF7
      refine wpSeq fun F9 hF9 => ?_
      refine wpBlock ?_
      refine wpSeq fun F10 hF10 => ?_
      refine wpRegionD Try_mixed [.q, .q, .q, .q, .q, .q, .q, .q, .q, .q, .e, .q, .q, .q, .q, .q, .q, .q, .q, .q, .q, .q, .q, .e, .q, .q] 23 [0, 0, 3, 7, 15, 0, 0, 96, 224, 480, 1023, 2047, 4095, 8191, 8191, 32767, 65535, 131071, 8191, 8191, 794623, 1843199, 3940351, 8388607, 16777215, 33554431] [] (by kernel_rfl) _ rfl [0, 1, 2, 3, 4, 5, 6, 7, 8, 9, 10, 11, 12, 13, 14, 15, 16, 17, 18, 19, 20, 21, 22] rfl (by simp) ?_
      refine lexQ rfl rfl rfl rfl (fun H hM => (yMove (v := .slice _ _ _) rfl rfl)) ?_
      refine lexQ rfl rfl rfl rfl (fun H hM => (yMove (v := .int _ _) rfl rfl)) ?_
      refine lexQ rfl rfl rfl rfl (fun H hM => (yIdxP rfl Try.underlying23 Try.sizeOf86 rfl rfl ep rfl (by omega))) ?_
      refine lexQ rfl rfl rfl rfl (fun H hM => (yFieldAddr rfl Try.underlying86 rfl Try.sizeOf26 rfl rfl)) ?_
      refine lexQ rfl rfl rfl rfl (fun H hM => (yLoadC (cs := evC x.ev x.VA x.vc) rfl Try.underlying26 rfl Try.sizeOf26 rfl (fun j u hu => hM.ext.cell (hp j u (ev_sub hu))))) ?_
      refine lexQ rfl rfl rfl rfl (fun H hM => (yMove (v := .slice _ _ _) rfl rfl)) ?_
      refine lexQ rfl rfl rfl rfl (fun H hM => (yMove (v := .int _ _) rfl rfl)) ?_
      refine lexQ rfl rfl rfl rfl (fun H hM => (yIdxP rfl Try.underlying23 Try.sizeOf86 rfl rfl eq rfl (by omega))) ?_
      refine lexQ rfl rfl rfl rfl (fun H hM => (yFieldAddr rfl Try.underlying86 rfl Try.sizeOf26 rfl rfl)) ?_
      refine lexQ rfl rfl rfl rfl (fun H hM => (yLoadC (cs := evC y.ev y.VA y.vc) rfl Try.underlying26 rfl Try.sizeOf26 rfl (fun j u hu => hM.ext.cell (hq j u (ev_sub hu))))) ?_
      -- e slot 27: call F48<farandole/farandoleref01.SameEvent> t21 t26
      refine lexX0 rfl rfl rfl rfl rfl (by simp) (fun hM27 => stepCall rfl Try.call48 rfl ?_)
      refine (sameEvent_c x.ev y.ev x.VA y.VA x.vc y.vc H1 rA.1 rB.1 (by omega)).mono ?_
      rintro v H2 ⟨rfl, x2⟩
      refine ⟨x2, fun _ => ?_⟩
      refine lexQ rfl rfl rfl rfl (fun H hM => (yNot rfl rfl)) ?_
      -- guard t29
      by_cases hn : x.ev = y.ev
      · skip
        rw [decide_eq_true hn]
        refine lexQ rfl rfl rfl rfl (fun H hM => (yMove (v := .bool false) rfl rfl)) ?_
        refine lexQ rfl rfl rfl rfl (fun H hM => (yMove (v := .slice _ _ _) rfl rfl)) ?_
        refine lexQ rfl rfl rfl rfl (fun H hM => (yMove (v := .int _ _) rfl rfl)) ?_
        refine lexQ rfl rfl rfl rfl (fun H hM => (yIdxP rfl Try.underlying23 Try.sizeOf86 rfl rfl ep rfl (by omega))) ?_
        refine lexQ rfl rfl rfl rfl (fun H hM => (yFieldAddr rfl Try.underlying86 rfl Try.sizeOf28 rfl rfl)) ?_
        refine lexQ rfl rfl rfl rfl (fun H hM => (yLoad rfl Try.underlying28 rfl rfl (hM.ext.cell (show cellH H1 _ = some (.slice x.CA x.clk.length x.cc) from hp 5 _ rfl)))) ?_
        refine lexQ rfl rfl rfl rfl (fun H hM => (yMove (v := .slice _ _ _) rfl rfl)) ?_
        refine lexQ rfl rfl rfl rfl (fun H hM => (yMove (v := .int _ _) rfl rfl)) ?_
        refine lexQ rfl rfl rfl rfl (fun H hM => (yIdxP rfl Try.underlying23 Try.sizeOf86 rfl rfl eq rfl (by omega))) ?_
        refine lexQ rfl rfl rfl rfl (fun H hM => (yFieldAddr rfl Try.underlying86 rfl Try.sizeOf28 rfl rfl)) ?_
        refine lexQ rfl rfl rfl rfl (fun H hM => (yLoad rfl Try.underlying28 rfl rfl (hM.ext.cell (show cellH H1 _ = some (.slice y.CA y.clk.length y.cc) from hq 5 _ rfl)))) ?_
        -- tail
        refine lexNil0 rfl (fun hM => ?_)
        -- e slot 40: call F49<farandole/farandoleref07.Equal> t34 t39
        refine seqE rfl rfl (stepCall rfl Try.call49 rfl ?_)
        refine (r7Equal_c x.CA y.CA x.cc y.cc x.clk y.clk H2 (rA.2.ext x2) (rB.2.ext x2) (by omega) (by omega)).mono ?_
        rintro v H3 ⟨rfl, e⟩
        obtain rfl := e.symm
        clear e
        refine seqQ rfl rfl (yNot rfl rfl) ?_
        refine seqQ rfl rfl (yPickF (v := .bool _) rfl rfl rfl) ?_
        refine seqNil ?_
        refine hF10 _ _ ?_; clear hF10
        -- if t42
        refine wpCond rfl (fun hc => ?_) (fun hc => ?_)
        · skip
          have hc : ¬ x.clk = y.clk := by simpa using hc
          refine wpSeq fun F11 hF11 => ?_
          refine wpRegion ?_
          refine seqQ rfl rfl (yAssign (v := .bool _) rfl rfl) ?_
          refine seqNil ?_
          refine hF11 _ _ ?_; clear hF11
          -- ret
          refine wpRet (fin1 (v := .bool _) rfl rfl ?_)
          exact ⟨by rw [decide_eq_false (hne fun h => hc h.2)], hE.trans x2⟩
        · skip
          have hc : x.clk = y.clk := by simpa using hc
          refine wpSkip ?_
          refine hF9 _ _ ?_; clear hF9
          refine wpRegion ?_
          refine seqQ rfl rfl (yMove (v := .int _ _) rfl rfl) ?_
          refine seqQ rfl rfl (yAdd rfl rfl rfl (by unfold In64; omega)) ?_
          refine seqQ rfl rfl (yAssign (v := .int _ _) rfl rfl) ?_
          refine seqNil ?_
          -- end loop
          exact loopEnd (k + 1) (by repeat (first | (with_reducible exact Agree.refl _ _) | refine Agree.upd ?_ rfl | refine Agree.over ?_ rfl)) (by omega) ⟨rfl, trivial⟩ ⟨hka, by rw [tA, tB, he, (Ent.eq_iff x.ent y.ent).2 ⟨hn, hc⟩], hE.trans x2⟩
      · skip
        rw [decide_eq_false hn]
        refine lexQ rfl rfl rfl rfl (fun H hM => (yMove (v := .bool true) rfl rfl)) ?_
        refine lexU rfl rfl rfl ?_
        refine lexU rfl rfl rfl ?_
        refine lexU rfl rfl rfl ?_
        refine lexU rfl rfl rfl ?_
        refine lexU rfl rfl rfl ?_
        refine lexU rfl rfl rfl ?_
        refine lexU rfl rfl rfl ?_
        refine lexU rfl rfl rfl ?_
        refine lexU rfl rfl rfl ?_
        refine lexU rfl rfl rfl ?_
        -- tail
        refine lexNil0 rfl (fun hM => ?_)
        refine seqU rfl rfl ?_
        refine seqU rfl rfl ?_
        refine seqQ rfl rfl (yPickT (v := .bool _) rfl rfl rfl) ?_
        refine seqNil ?_
        refine hF10 _ _ ?_; clear hF10
        -- if t42
        refine wpT rfl ?_
        refine wpSeq fun F12 hF12 => ?_
        refine wpRegion ?_
        refine seqQ rfl rfl (yAssign (v := .bool _) rfl rfl) ?_
        refine seqNil ?_
        refine hF12 _ _ ?_; clear hF12
        -- ret
        refine wpRet (fin1 (v := .bool _) rfl rfl ?_)
        exact ⟨by rw [decide_eq_false (hne fun h => hn h.1)], hE.trans x2⟩
    · skip
      obtain rfl : k = a.length := by omega
      refine wpExit ?_
      refine hF5 _ _ ?_; clear hF5
      refine wpSeq fun F13 hF13 => ?_
      refine wpRegion ?_
      refine seqQ rfl rfl (yAssign (v := .bool _) rfl rfl) ?_
      refine seqNil ?_
      refine hF13 _ _ ?_; clear hF13
      -- ret
      refine wpRet (fin1 (v := .bool _) rfl rfl ?_)
      rw [List.take_of_length_le (by simp), List.take_of_length_le (by simp; omega)] at he
      exact ⟨by rw [decide_eq_true he], hE⟩
end Go.Proofs.Ytbanngdijmglbaa
