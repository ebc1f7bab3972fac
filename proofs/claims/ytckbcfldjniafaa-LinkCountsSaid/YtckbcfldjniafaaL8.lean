/- Package link: links and packets compared; few; fates. -/
import Derived.Test.YtckbcfldjniafaaL7
namespace Go.Proofs.Ytckbcfldjniafaa
open Go.RowKit

set_option maxRecDepth 100000 in
theorem bytesEqL (x y : List UInt8) : decide ((⟨x.toArray⟩ : ByteArray) = ⟨y.toArray⟩) = decide (x = y) := by
  refine decide_eq_decide.2 ⟨fun h => ?_, fun h => by rw [h]⟩
  have := congrArg (fun b : ByteArray => b.data.toList) h
  simpa using this
set_option maxRecDepth 100000 in
theorem bytesEqual_c (A B : Option Addr) (ca cb : Nat) (x y : List UInt8) (H : Heap) (hA : Rd eByte H A x) (hB : Rd eByte H B y) :
    CallsH Try.prog 38 [.slice A x.length ca, .slice B y.length cb] H fun v H' => v = .bool (decide (x = y)) ∧ H' = H := by
  refine callsH_of Try.func38 rfl Try.ntmps38 (Nat.le_of_ble_eq_true rfl) ?_
  refine wpSeq fun F1 hF1 => ?_
  refine wpRegion ?_
  refine seqQ rfl rfl (yAssign (v := .bool _) rfl rfl) ?_
  refine seqNil ?_
  refine hF1 _ _ ?_; clear hF1
  refine wpSeq fun F2 hF2 => ?_
  refine wpRegion ?_
  refine seqQ rfl rfl (yMove (v := .slice _ _ _) rfl rfl) ?_
  refine seqQ rfl rfl (yBytesStr rfl Try.underlying22 Try.underlying9 Try.underlying5 rfl rfl hA) ?_
  refine seqQ rfl rfl (yMove (v := .slice _ _ _) rfl rfl) ?_
  refine seqQ rfl rfl (yBytesStr rfl Try.underlying22 Try.underlying9 Try.underlying5 rfl rfl hB) ?_
  refine seqQ rfl rfl (yEqlS rfl rfl rfl) ?_
  refine seqQ rfl rfl (yAssign (v := .bool _) rfl rfl) ?_
  refine seqNil ?_
  refine hF2 _ _ ?_; clear hF2
  -- ret
  refine wpRet (fin1 (v := .bool _) rfl rfl ?_)
  exact ⟨by rw [bytesEqL], rfl⟩
set_option maxRecDepth 100000 in
theorem equal1_c (x y : FH) (H : Heap) (hx : Rd eByte H x.A x.data) (hy : Rd eByte H y.A y.data) :
    CallsH Try.prog 40 [.agg (eFH.F x).toArray, .agg (eFH.F y).toArray] H fun v H' => v = .bool (decide (x.fl = y.fl)) ∧ Ext H H' := by
  refine callsH_of Try.func40 rfl Try.ntmps40 (Nat.le_of_ble_eq_true rfl) ?_
  refine wpSeq fun F1 hF1 => ?_
  refine wpRegion ?_
  refine seqN rfl rfl (nBoxA rfl rfl) (fun g2 H2 hx2 hB2 hg2 hl2 => ?_)
  refine seqN rfl rfl (nBoxA rfl rfl) (fun g3 H3 hx3 hB3 hg3 hl3 => ?_)
  refine seqQ rfl rfl (yAssign (v := .bool _) rfl rfl) ?_
  refine seqNil ?_
  refine hF1 _ _ ?_; clear hF1
  refine wpSeq fun F2 hF2 => ?_
  refine wpRegion ?_
  refine seqQ rfl rfl (yFieldAddr rfl Try.underlying65 rfl Try.sizeOf3 rfl rfl) ?_
  refine seqQ rfl rfl (yLoad rfl Try.underlying3 rfl rfl ((hB2.ext hx3).cell rfl)) ?_
  refine seqQ rfl rfl (yFieldAddr rfl Try.underlying65 rfl Try.sizeOf3 rfl rfl) ?_
  refine seqQ rfl rfl (yLoad rfl Try.underlying3 rfl rfl (hB3.cell rfl)) ?_
  refine seqQ rfl rfl (yEql rfl rfl rfl) ?_
  first | refine seqG rfl rfl rfl rfl (fun h10 => ?_) (fun h10 => ?_) | refine seqGB rfl rfl rfl rfl (fun h10 => ?_) (fun h10 => ?_)
  rotate_left
  · skip
    refine seqU rfl rfl ?_
    refine seqU rfl rfl ?_
    refine seqU rfl rfl ?_
    refine seqU rfl rfl ?_
    refine seqU rfl rfl ?_
    refine seqQ rfl rfl (yPickF (v := .bool _) rfl rfl rfl) ?_
    refine seqQ rfl rfl (yAssign (v := .bool _) rfl rfl) ?_
    refine seqNil ?_
    refine hF2 _ _ ?_; clear hF2
    refine wpRet (fin1 (v := .bool _) rfl rfl ?_)
    exact ⟨by congr 1; rw [decide_eq_false (fun e => h10 (congrArg Prod.fst e))], hx2.trans hx3⟩
  refine seqQ rfl rfl (yFieldAddr rfl Try.underlying65 rfl Try.sizeOf22 rfl rfl) ?_
  refine seqQ rfl rfl (yLoad rfl Try.underlying22 rfl rfl ((hB2.ext hx3).cell rfl)) ?_
  refine seqQ rfl rfl (yFieldAddr rfl Try.underlying65 rfl Try.sizeOf22 rfl rfl) ?_
  refine seqQ rfl rfl (yLoad rfl Try.underlying22 rfl rfl (hB3.cell rfl)) ?_
  -- e slot 15: call F38<bytes.Equal> t12 t14
  refine seqE rfl rfl (stepCall rfl Try.call38 rfl ?_)
  refine (bytesEqual_c x.A y.A x.cap y.cap x.data y.data H3 ((hx.ext hx2).ext hx3) ((hy.ext hx2).ext hx3)).mono ?_
  rintro v H4 ⟨rfl, e⟩
  obtain rfl := e.symm
  clear e
  refine seqQ rfl rfl (yPickT (v := .bool _) rfl rfl rfl) ?_
  refine seqQ rfl rfl (yAssign (v := .bool _) rfl rfl) ?_
  refine seqNil ?_
  refine hF2 _ _ ?_; clear hF2
  -- ret
  refine wpRet (fin1 (v := .bool _) rfl rfl ?_)
  refine ⟨?_, hx2.trans hx3⟩
  congr 1
  exact decide_eq_decide.2 ⟨fun e => Prod.ext h10 e, fun e => congrArg Prod.snd e⟩
set_option maxRecDepth 100000 in
theorem eqFunc_c (A B : Option Addr) (ca cb : Nat) (x y : List FH) (H : Heap) (hA : Rd eFH H A x) (hB : Rd eFH H B y) (dA : ∀ z ∈ x, Rd eByte H z.A z.data) (dB : ∀ z ∈ y, Rd eByte H z.A z.data) (hl : x.length ≤ 100000) :
    CallsH Try.prog 39 [.slice A x.length ca, .slice B y.length cb, .func (.func 40) #[] #[]] H fun v H' => v = .bool (decide (x.map FH.fl = y.map FH.fl)) ∧ Ext H H' := by
  refine callsH_of Try.func39 rfl Try.ntmps39 (Nat.le_of_ble_eq_true rfl) ?_
  refine wpSeq fun F1 hF1 => ?_
  refine wpRegion ?_
  refine seqQ rfl rfl (yAssign (v := .bool _) rfl rfl) ?_
  refine seqNil ?_
  refine hF1 _ _ ?_; clear hF1
  refine wpSeq fun F2 hF2 => ?_
  refine wpSeq fun F3 hF3 => ?_
  refine wpRegion ?_
  refine seqQ rfl rfl (yMove (v := .slice _ _ _) rfl rfl) ?_
  refine seqQ rfl rfl (yLen rfl Try.underlying28 rfl) ?_
  refine seqQ rfl rfl (yMove (v := .slice _ _ _) rfl rfl) ?_
  refine seqQ rfl rfl (yLen rfl Try.underlying28 rfl) ?_
  refine seqQ rfl rfl (yNeq rfl rfl rfl) ?_
  refine seqNil ?_
  refine hF3 _ _ ?_; clear hF3
  -- if t14
  refine wpCond rfl (fun hlen => ?_) (fun hlen => ?_)
  · skip
    refine wpSeq fun F4 hF4 => ?_
    refine wpRegion ?_
    refine seqQ rfl rfl (yAssign (v := .bool _) rfl rfl) ?_
    refine seqNil ?_
    refine hF4 _ _ ?_; clear hF4
    -- ret
    refine wpRet (fin1 (v := .bool _) rfl rfl ?_)
    have hlen : x.length ≠ y.length := by simp at hlen; omega
    exact ⟨by rw [decide_eq_false (fun e => hlen (by have := congrArg List.length e; simpa using this))], Ext.refl _⟩
  · skip
    have hlen : x.length = y.length := by simp at hlen; omega
    refine wpSkip ?_
    refine hF2 _ _ ?_; clear hF2
    refine wpSeq fun F5 hF5 => ?_
    refine wpSeq fun F6 hF6 => ?_
    refine wpRegion ?_
    refine seqQ rfl rfl (yMove (v := .slice _ _ _) rfl rfl) ?_
    refine seqQ rfl rfl (yLen rfl Try.underlying28 rfl) ?_
    refine seqQ rfl rfl (yMove (v := .int _ _) rfl rfl) ?_
    refine seqNil ?_
    refine hF6 _ _ ?_; clear hF6
    -- loop
    refine wpBlock ?_
    refine wpLoopS [6, 7, 8, 9, 17, 18, 19, 20, 21, 22, 23, 24, 25, 26, 27, 28, 29, 30, 31] (fun k : Nat => [(17, .int .i64 k)]) (fun k H' => k ≤ x.length ∧ (x.map FH.fl).take k = (y.map FH.fl).take k ∧ Ext H H') (fun k => x.length - k) 0 ⟨rfl, trivial⟩ ⟨Nat.zero_le _, rfl, Ext.refl _⟩ ?_
    rintro k J H1 ⟨hk, he, hE⟩
    refine wpSeq fun F7 hF7 => ?_
    refine wpRegion ?_
    refine seqQ rfl rfl (yLss rfl rfl rfl) ?_
    refine seqNil ?_
    refine hF7 _ _ ?_; clear hF7
    refine wpSeq fun F8 hF8 => ?_
    -- if t18
    refine wpIf rfl (fun hlt => ?_) (fun hlt => ?_)
    · skip
      have hkx : k < x.length := by omega
      have hky : k < y.length := by omega
      obtain ⟨p, ep, hp⟩ := hA.at hkx
      obtain ⟨q, eq, hq⟩ := hB.at hky
      refine wpSkip ?_
      refine hF8 _ _ ?_; clear hF8
      refine wpSeq fun F9 hF9 => ?_
      refine wpBlock ?_
      refine wpSeq fun F10 hF10 => ?_
      refine wpRegion ?_
      refine seqQ rfl rfl (yMove (v := .int _ _) rfl rfl) ?_
      refine seqQ rfl rfl (yIdxP rfl Try.underlying28 Try.sizeOf65 rfl rfl ep rfl hkx) ?_
      refine seqQ rfl rfl (yLoadC (cs := eFH.F x[k]) rfl Try.underlying65 rfl Try.sizeOf65 rfl (fun j u hu => hE.cell (hp j u hu))) ?_
      refine seqN rfl rfl (nAlloc rfl Try.zeroValue65 rfl) (fun g8 H8 hx8 hB8 hg8 hl8 => ?_)
      refine seqQ rfl rfl (yAssign (v := .int _ _) rfl rfl) ?_
      -- e slot None: store T65 t8 t21
      refine seqE0 rfl rfl (stepStoreB rfl (by kernel_rfl) rfl rfl rfl hB8 rfl ?_)
      intro H2 h8 hK2
      have hE2 : Ext H1 H2 := hx8.mine hK2 (by simp; omega)
      have s1 := hE.size
      refine seqNil ?_
      refine hF10 _ _ ?_; clear hF10
      refine wpSeq fun F11 hF11 => ?_
      refine wpRegion ?_
      refine seqQ rfl rfl (yMove (v := .slice _ _ _) rfl rfl) ?_
      refine seqQ rfl rfl (yMove (v := .int _ _) rfl rfl) ?_
      refine seqQ rfl rfl (yIdxP rfl Try.underlying28 Try.sizeOf65 rfl rfl eq rfl hky) ?_
      refine seqQ rfl rfl (yLoadC (cs := eFH.F y[k]) rfl Try.underlying65 rfl Try.sizeOf65 rfl (fun j u hu => (hE.trans hE2).cell (hq j u hu))) ?_
      refine seqN rfl rfl (nAlloc rfl Try.zeroValue65 rfl) (fun g9 H9 hx9 hB9 hg9 hl9 => ?_)
      -- e slot None: store T65 t9 t25
      refine seqE0 rfl rfl (stepStoreB rfl (by kernel_rfl) rfl rfl rfl hB9 rfl ?_)
      intro H3 h9 hK3
      have hE3 : Ext H2 H3 := hx9.mine hK3 (by simp; omega)
      refine seqNil ?_
      refine hF11 _ _ ?_; clear hF11
      refine wpSeq fun F12 hF12 => ?_
      refine wpRegion ?_
      refine seqQ rfl rfl (yMove (v := .func _ _ _) rfl rfl) ?_
      refine seqQ rfl rfl (yLoadB (h8.ext hE3) rfl Try.underlying65 rfl Try.sizeOf65 rfl) ?_
      refine seqQ rfl rfl (yLoadB h9 rfl Try.underlying65 rfl Try.sizeOf65 rfl) ?_
      -- e slot 29: callv t26 t27 t28
      refine seqE rfl rfl (stepCallV (first := []) (cap := []) rfl Try.call40 rfl rfl ?_)
      have hE4 := (hE.trans hE2).trans hE3
      refine (equal1_c x[k] y[k] H3 ((dA _ (List.getElem_mem hkx)).ext hE4) ((dB _ (List.getElem_mem hky)).ext hE4)).mono ?_
      rintro v H4 ⟨rfl, x4⟩
      refine seqQ rfl rfl (yNot rfl rfl) ?_
      refine seqNil ?_
      refine hF12 _ _ ?_; clear hF12
      -- if t30
      refine wpCond rfl (fun hn => ?_) (fun hn => ?_)
      · skip
        have hn : ¬ x[k].fl = y[k].fl := by simpa using hn
        refine wpSeq fun F13 hF13 => ?_
        refine wpRegion ?_
        refine seqQ rfl rfl (yAssign (v := .bool _) rfl rfl) ?_
        refine seqNil ?_
        refine hF13 _ _ ?_; clear hF13
        -- ret
        refine wpRet (fin1 (v := .bool _) rfl rfl ?_)
        have hne : ¬ x.map FH.fl = y.map FH.fl := fun e => hn (by
          have := congrArg (fun l : List Fl => l[k]?) e
          simpa [hkx, hky] using this)
        exact ⟨by rw [decide_eq_false hne], hE4.trans x4⟩
      · skip
        have hn : x[k].fl = y[k].fl := by simpa using hn
        refine wpSkip ?_
        refine hF9 _ _ ?_; clear hF9
        refine wpRegion ?_
        refine seqQ rfl rfl (yAdd rfl rfl rfl (by unfold In64; omega)) ?_
        refine seqQ rfl rfl (yMove (v := .int _ _) rfl rfl) ?_
        refine seqNil ?_
        -- end loop
        refine loopEnd (k + 1) (by repeat (first | (with_reducible exact Agree.refl _ _) | refine Agree.upd ?_ rfl | refine Agree.over ?_ rfl)) (by omega) ⟨rfl, trivial⟩ ⟨hkx, ?_, hE4.trans x4⟩
        rw [List.take_succ_eq_append_getElem (by simpa using hkx), List.take_succ_eq_append_getElem (by simpa using hky), he, List.getElem_map, List.getElem_map, hn]
    · skip
      obtain rfl : k = x.length := by omega
      refine wpExit ?_
      refine hF5 _ _ ?_; clear hF5
      refine wpSeq fun F14 hF14 => ?_
      refine wpRegion ?_
      refine seqQ rfl rfl (yAssign (v := .bool _) rfl rfl) ?_
      refine seqNil ?_
      refine hF14 _ _ ?_; clear hF14
      -- ret
      refine wpRet (fin1 (v := .bool _) rfl rfl ?_)
      rw [List.take_of_length_le (by simp), List.take_of_length_le (by simp [hlen])] at he
      exact ⟨by rw [decide_eq_true he], hE⟩
set_option maxRecDepth 100000 in
theorem lEqual_c (a b : LH) (H : Heap) (ha : LkRd H a) (hb : LkRd H b) (hl : a.fly.length ≤ 100000) :
    CallsH Try.prog 29 [.agg (lkC a).toArray, .agg (lkC b).toArray] H fun v H' => v = .bool (decide (a.lk = b.lk)) ∧ Ext H H' := by
  refine callsH_of Try.func29 rfl Try.ntmps29 (Nat.le_of_ble_eq_true rfl) ?_
  refine wpSeq fun F1 hF1 => ?_
  refine wpRegion ?_
  refine seqN rfl rfl (nBoxA rfl rfl) (fun g2 H2 hx2 hB2 hg2 hl2 => ?_)
  refine seqN rfl rfl (nBoxA rfl rfl) (fun g3 H3 hx3 hB3 hg3 hl3 => ?_)
  refine seqQ rfl rfl (yAssign (v := .bool _) rfl rfl) ?_
  refine seqNil ?_
  refine hF1 _ _ ?_; clear hF1
  refine wpSeq fun F2 hF2 => ?_
  -- region 1
  have h2 := hB2.ext hx3
  have h3 := hB3
  have hE := hx2.trans hx3
  replace ha := ha.ext hE
  replace hb := hb.ext hE
  refine wpRegion ?_
  refine seqQ rfl rfl (yFieldAddr rfl Try.underlying30 rfl Try.sizeOf22 rfl rfl) ?_
  refine seqQ rfl rfl (yLoad rfl Try.underlying22 rfl rfl (h2.cell rfl)) ?_
  refine seqQ rfl rfl (yFieldAddr rfl Try.underlying30 rfl Try.sizeOf22 rfl rfl) ?_
  refine seqQ rfl rfl (yLoad rfl Try.underlying22 rfl rfl (h3.cell rfl)) ?_
  -- e slot 9: call F38<bytes.Equal> t6 t8
  refine seqE rfl rfl (stepCall rfl Try.call38 rfl ?_)
  refine (bytesEqual_c a.PA b.PA a.pc b.pc a.pat b.pat H3 ha.pat hb.pat).mono ?_
  rintro v H4 ⟨rfl, e⟩
  obtain rfl := e.symm
  clear e
  first | refine seqG rfl rfl rfl rfl (fun h10 => ?_) (fun h10 => ?_) | refine seqGB rfl rfl rfl rfl (fun h10 => ?_) (fun h10 => ?_)
  rotate_left
  · skip
    refine seqU rfl rfl ?_
    refine seqU rfl rfl ?_
    refine seqU rfl rfl ?_
    refine seqU rfl rfl ?_
    refine seqU rfl rfl ?_
    refine seqQ rfl rfl (yPickF (v := .bool _) rfl rfl rfl) ?_
    refine seqQ rfl rfl (yMove (v := .bool false) rfl rfl) ?_
    refine seqU rfl rfl ?_
    refine seqU rfl rfl ?_
    refine seqU rfl rfl ?_
    refine seqU rfl rfl ?_
    refine seqU rfl rfl ?_
    refine seqQ rfl rfl (yPickF (v := .bool _) rfl rfl rfl) ?_
    refine seqQ rfl rfl (yMove (v := .bool false) rfl rfl) ?_
    refine seqU rfl rfl ?_
    refine seqU rfl rfl ?_
    refine seqU rfl rfl ?_
    refine seqU rfl rfl ?_
    refine seqU rfl rfl ?_
    refine seqQ rfl rfl (yPickF (v := .bool _) rfl rfl rfl) ?_
    refine seqQ rfl rfl (yAssign (v := .bool _) rfl rfl) ?_
    refine seqNil ?_
    refine hF2 _ _ ?_; clear hF2
    refine wpRet (fin1 (v := .bool _) rfl rfl ?_)
    exact ⟨by congr 1; rw [decide_eq_false (fun e => by rw [Lk.eq_iff] at e; first | exact h10 e.1 | exact h17 e.2.1 | exact h24 e.2.2.1)], hE⟩
  refine seqQ rfl rfl (yFieldAddr rfl Try.underlying30 rfl Try.sizeOf3 rfl rfl) ?_
  refine seqQ rfl rfl (yLoad rfl Try.underlying3 rfl rfl (h2.cell rfl)) ?_
  refine seqQ rfl rfl (yFieldAddr rfl Try.underlying30 rfl Try.sizeOf3 rfl rfl) ?_
  refine seqQ rfl rfl (yLoad rfl Try.underlying3 rfl rfl (h3.cell rfl)) ?_
  refine seqQ rfl rfl (yEql rfl rfl rfl) ?_
  refine seqQ rfl rfl (yPickT (v := .bool _) rfl rfl rfl) ?_
  first | refine seqG rfl rfl rfl rfl (fun h17 => ?_) (fun h17 => ?_) | refine seqGB rfl rfl rfl rfl (fun h17 => ?_) (fun h17 => ?_)
  rotate_left
  · skip
    refine seqU rfl rfl ?_
    refine seqU rfl rfl ?_
    refine seqU rfl rfl ?_
    refine seqU rfl rfl ?_
    refine seqU rfl rfl ?_
    refine seqQ rfl rfl (yPickF (v := .bool _) rfl rfl rfl) ?_
    refine seqQ rfl rfl (yMove (v := .bool false) rfl rfl) ?_
    refine seqU rfl rfl ?_
    refine seqU rfl rfl ?_
    refine seqU rfl rfl ?_
    refine seqU rfl rfl ?_
    refine seqU rfl rfl ?_
    refine seqQ rfl rfl (yPickF (v := .bool _) rfl rfl rfl) ?_
    refine seqQ rfl rfl (yAssign (v := .bool _) rfl rfl) ?_
    refine seqNil ?_
    refine hF2 _ _ ?_; clear hF2
    refine wpRet (fin1 (v := .bool _) rfl rfl ?_)
    exact ⟨by congr 1; rw [decide_eq_false (fun e => by rw [Lk.eq_iff] at e; first | exact h10 e.1 | exact h17 e.2.1 | exact h24 e.2.2.1)], hE⟩
  refine seqQ rfl rfl (yFieldAddr rfl Try.underlying30 rfl Try.sizeOf3 rfl rfl) ?_
  refine seqQ rfl rfl (yLoad rfl Try.underlying3 rfl rfl (h2.cell rfl)) ?_
  refine seqQ rfl rfl (yFieldAddr rfl Try.underlying30 rfl Try.sizeOf3 rfl rfl) ?_
  refine seqQ rfl rfl (yLoad rfl Try.underlying3 rfl rfl (h3.cell rfl)) ?_
  refine seqQ rfl rfl (yEql rfl rfl rfl) ?_
  refine seqQ rfl rfl (yPickT (v := .bool _) rfl rfl rfl) ?_
  first | refine seqG rfl rfl rfl rfl (fun h24 => ?_) (fun h24 => ?_) | refine seqGB rfl rfl rfl rfl (fun h24 => ?_) (fun h24 => ?_)
  rotate_left
  · skip
    refine seqU rfl rfl ?_
    refine seqU rfl rfl ?_
    refine seqU rfl rfl ?_
    refine seqU rfl rfl ?_
    refine seqU rfl rfl ?_
    refine seqQ rfl rfl (yPickF (v := .bool _) rfl rfl rfl) ?_
    refine seqQ rfl rfl (yAssign (v := .bool _) rfl rfl) ?_
    refine seqNil ?_
    refine hF2 _ _ ?_; clear hF2
    refine wpRet (fin1 (v := .bool _) rfl rfl ?_)
    exact ⟨by congr 1; rw [decide_eq_false (fun e => by rw [Lk.eq_iff] at e; first | exact h10 e.1 | exact h17 e.2.1 | exact h24 e.2.2.1)], hE⟩
  refine seqQ rfl rfl (yFieldAddr rfl Try.underlying30 rfl Try.sizeOf28 rfl rfl) ?_
  refine seqQ rfl rfl (yLoad rfl Try.underlying28 rfl rfl (h2.cell rfl)) ?_
  refine seqQ rfl rfl (yFieldAddr rfl Try.underlying30 rfl Try.sizeOf28 rfl rfl) ?_
  refine seqQ rfl rfl (yLoad rfl Try.underlying28 rfl rfl (h3.cell rfl)) ?_
  -- e slot 29: call F39<slices.EqualFunc[[]farandole/link.Flight,[]farandole/link.Flight,farandole/link.Flight,farandole/link.Flight]> t26 t28 F40
  refine seqE rfl rfl (stepCall rfl Try.call39 rfl ?_)
  refine (eqFunc_c a.FA b.FA a.fc b.fc a.fly b.fly H3 ha.fly hb.fly ha.data hb.data hl).mono ?_
  rintro v H4 ⟨rfl, x4⟩
  refine seqQ rfl rfl (yPickT (v := .bool _) rfl rfl rfl) ?_
  refine seqQ rfl rfl (yAssign (v := .bool _) rfl rfl) ?_
  refine seqNil ?_
  refine hF2 _ _ ?_; clear hF2
  -- ret
  refine wpRet (fin1 (v := .bool _) rfl rfl ?_)
  refine ⟨?_, hE.trans x4⟩
  congr 1
  refine decide_eq_decide.2 ⟨fun e => ?_, fun e => ?_⟩
  · rw [Lk.eq_iff]
    exact ⟨h10, h17, h24, e⟩
  · rw [Lk.eq_iff] at e
    exact e.2.2.2
set_option maxRecDepth 100000 in
theorem rEqualL_c (a b : LH) (H : Heap) (ha : LkRd H a) (hb : LkRd H b) (hl : a.fly.length ≤ 100000) :
    CallsH Try.prog 16 [.agg (lkC a).toArray, .agg (lkC b).toArray] H fun v H' => v = .bool (decide (a.lk = b.lk)) ∧ Ext H H' := by
  refine callsH_of Try.func16 rfl Try.ntmps16 (Nat.le_of_ble_eq_true rfl) ?_
  refine wpSeq fun F1 hF1 => ?_
  refine wpRegion ?_
  refine seqN rfl rfl (nBoxA rfl rfl) (fun g2 H2 hx2 hB2 hg2 hl2 => ?_)
  refine seqN rfl rfl (nBoxA rfl rfl) (fun g3 H3 hx3 hB3 hg3 hl3 => ?_)
  refine seqQ rfl rfl (yAssign (v := .bool _) rfl rfl) ?_
  refine seqNil ?_
  refine hF1 _ _ ?_; clear hF1
  refine wpSeq fun F2 hF2 => ?_
  refine wpSeq fun F3 hF3 => ?_
  -- region 1
  have h2 := hB2.ext hx3
  have h3 := hB3
  have hE := hx2.trans hx3
  replace ha := ha.ext hE
  replace hb := hb.ext hE
  refine wpRegion ?_
  refine seqQ rfl rfl (yFieldAddr rfl Try.underlying25 rfl Try.sizeOf22 rfl rfl) ?_
  refine seqQ rfl rfl (yLoad rfl Try.underlying22 rfl rfl (h2.cell rfl)) ?_
  refine seqQ rfl rfl (yBytesStr rfl Try.underlying22 Try.underlying9 Try.underlying5 rfl rfl ha.pat) ?_
  refine seqQ rfl rfl (yFieldAddr rfl Try.underlying25 rfl Try.sizeOf22 rfl rfl) ?_
  refine seqQ rfl rfl (yLoad rfl Try.underlying22 rfl rfl (h3.cell rfl)) ?_
  refine seqQ rfl rfl (yBytesStr rfl Try.underlying22 Try.underlying9 Try.underlying5 rfl rfl hb.pat) ?_
  refine seqQ rfl rfl (yNeqS rfl rfl rfl) ?_
  first | refine seqG rfl rfl rfl rfl (fun h13 => ?_) (fun h13 => ?_) | refine seqGB rfl rfl rfl rfl (fun h13 => ?_) (fun h13 => ?_)
  · skip
    refine seqU rfl rfl ?_
    refine seqU rfl rfl ?_
    refine seqU rfl rfl ?_
    refine seqU rfl rfl ?_
    refine seqU rfl rfl ?_
    refine seqQ rfl rfl (yPickT (v := .bool _) rfl rfl rfl) ?_
    refine seqQ rfl rfl (yMove (v := .bool true) rfl rfl) ?_
    refine seqU rfl rfl ?_
    refine seqU rfl rfl ?_
    refine seqU rfl rfl ?_
    refine seqU rfl rfl ?_
    refine seqU rfl rfl ?_
    refine seqQ rfl rfl (yPickT (v := .bool _) rfl rfl rfl) ?_
    refine seqQ rfl rfl (yMove (v := .bool true) rfl rfl) ?_
    refine seqU rfl rfl ?_
    refine seqU rfl rfl ?_
    refine seqU rfl rfl ?_
    refine seqU rfl rfl ?_
    refine seqU rfl rfl ?_
    refine seqU rfl rfl ?_
    refine seqU rfl rfl ?_
    refine seqQ rfl rfl (yPickT (v := .bool _) rfl rfl rfl) ?_
    refine seqNil ?_
    refine hF3 _ _ ?_; clear hF3
    refine wpT rfl ?_
    refine wpSeq fun F4 hF4 => ?_
    refine wpRegion ?_
    refine seqQ rfl rfl (yAssign (v := .bool _) rfl rfl) ?_
    refine seqNil ?_
    refine hF4 _ _ ?_; clear hF4
    refine wpRet (fin1 (v := .bool _) rfl rfl ?_)
    exact ⟨by congr 1; rw [decide_eq_false (fun e => by rw [Lk.eq_iff] at e; obtain ⟨e1, e2, e3, e4⟩ := e; have e5 := congrArg List.length e4; rw [fly_len, fly_len] at e5; first | (rw [bytesEqL] at h13; simp at h13; exact h13 e1) | (simp at h20; exact h20 e2) | (simp at h27; exact h27 e3) | (simp at h35; omega))], hE⟩
  refine seqQ rfl rfl (yFieldAddr rfl Try.underlying25 rfl Try.sizeOf3 rfl rfl) ?_
  refine seqQ rfl rfl (yLoad rfl Try.underlying3 rfl rfl (h2.cell rfl)) ?_
  refine seqQ rfl rfl (yFieldAddr rfl Try.underlying25 rfl Try.sizeOf3 rfl rfl) ?_
  refine seqQ rfl rfl (yLoad rfl Try.underlying3 rfl rfl (h3.cell rfl)) ?_
  refine seqQ rfl rfl (yNeq rfl rfl rfl) ?_
  refine seqQ rfl rfl (yPickF (v := .bool _) rfl rfl rfl) ?_
  first | refine seqG rfl rfl rfl rfl (fun h20 => ?_) (fun h20 => ?_) | refine seqGB rfl rfl rfl rfl (fun h20 => ?_) (fun h20 => ?_)
  · skip
    refine seqU rfl rfl ?_
    refine seqU rfl rfl ?_
    refine seqU rfl rfl ?_
    refine seqU rfl rfl ?_
    refine seqU rfl rfl ?_
    refine seqQ rfl rfl (yPickT (v := .bool _) rfl rfl rfl) ?_
    refine seqQ rfl rfl (yMove (v := .bool true) rfl rfl) ?_
    refine seqU rfl rfl ?_
    refine seqU rfl rfl ?_
    refine seqU rfl rfl ?_
    refine seqU rfl rfl ?_
    refine seqU rfl rfl ?_
    refine seqU rfl rfl ?_
    refine seqU rfl rfl ?_
    refine seqQ rfl rfl (yPickT (v := .bool _) rfl rfl rfl) ?_
    refine seqNil ?_
    refine hF3 _ _ ?_; clear hF3
    refine wpT rfl ?_
    refine wpSeq fun F5 hF5 => ?_
    refine wpRegion ?_
    refine seqQ rfl rfl (yAssign (v := .bool _) rfl rfl) ?_
    refine seqNil ?_
    refine hF5 _ _ ?_; clear hF5
    refine wpRet (fin1 (v := .bool _) rfl rfl ?_)
    exact ⟨by congr 1; rw [decide_eq_false (fun e => by rw [Lk.eq_iff] at e; obtain ⟨e1, e2, e3, e4⟩ := e; have e5 := congrArg List.length e4; rw [fly_len, fly_len] at e5; first | (rw [bytesEqL] at h13; simp at h13; exact h13 e1) | (simp at h20; exact h20 e2) | (simp at h27; exact h27 e3) | (simp at h35; omega))], hE⟩
  refine seqQ rfl rfl (yFieldAddr rfl Try.underlying25 rfl Try.sizeOf3 rfl rfl) ?_
  refine seqQ rfl rfl (yLoad rfl Try.underlying3 rfl rfl (h2.cell rfl)) ?_
  refine seqQ rfl rfl (yFieldAddr rfl Try.underlying25 rfl Try.sizeOf3 rfl rfl) ?_
  refine seqQ rfl rfl (yLoad rfl Try.underlying3 rfl rfl (h3.cell rfl)) ?_
  refine seqQ rfl rfl (yNeq rfl rfl rfl) ?_
  refine seqQ rfl rfl (yPickF (v := .bool _) rfl rfl rfl) ?_
  first | refine seqG rfl rfl rfl rfl (fun h27 => ?_) (fun h27 => ?_) | refine seqGB rfl rfl rfl rfl (fun h27 => ?_) (fun h27 => ?_)
  · skip
    refine seqU rfl rfl ?_
    refine seqU rfl rfl ?_
    refine seqU rfl rfl ?_
    refine seqU rfl rfl ?_
    refine seqU rfl rfl ?_
    refine seqU rfl rfl ?_
    refine seqU rfl rfl ?_
    refine seqQ rfl rfl (yPickT (v := .bool _) rfl rfl rfl) ?_
    refine seqNil ?_
    refine hF3 _ _ ?_; clear hF3
    refine wpT rfl ?_
    refine wpSeq fun F6 hF6 => ?_
    refine wpRegion ?_
    refine seqQ rfl rfl (yAssign (v := .bool _) rfl rfl) ?_
    refine seqNil ?_
    refine hF6 _ _ ?_; clear hF6
    refine wpRet (fin1 (v := .bool _) rfl rfl ?_)
    exact ⟨by congr 1; rw [decide_eq_false (fun e => by rw [Lk.eq_iff] at e; obtain ⟨e1, e2, e3, e4⟩ := e; have e5 := congrArg List.length e4; rw [fly_len, fly_len] at e5; first | (rw [bytesEqL] at h13; simp at h13; exact h13 e1) | (simp at h20; exact h20 e2) | (simp at h27; exact h27 e3) | (simp at h35; omega))], hE⟩
  refine seqQ rfl rfl (yFieldAddr rfl Try.underlying25 rfl Try.sizeOf23 rfl rfl) ?_
  refine seqQ rfl rfl (yLoad rfl Try.underlying23 rfl rfl (h2.cell rfl)) ?_
  refine seqQ rfl rfl (yLen rfl Try.underlying23 rfl) ?_
  refine seqQ rfl rfl (yFieldAddr rfl Try.underlying25 rfl Try.sizeOf23 rfl rfl) ?_
  refine seqQ rfl rfl (yLoad rfl Try.underlying23 rfl rfl (h3.cell rfl)) ?_
  refine seqQ rfl rfl (yLen rfl Try.underlying23 rfl) ?_
  refine seqQ rfl rfl (yNeq rfl rfl rfl) ?_
  refine seqQ rfl rfl (yPickF (v := .bool _) rfl rfl rfl) ?_
  refine seqNil ?_
  refine hF3 _ _ ?_; clear hF3
  -- if t35
  refine wpCond rfl (fun hlen => ?_) (fun hlen => ?_)
  · skip
    have hlen : a.fly.length ≠ b.fly.length := by simp at hlen; omega
    refine wpSeq fun F7 hF7 => ?_
    refine wpRegion ?_
    refine seqQ rfl rfl (yAssign (v := .bool _) rfl rfl) ?_
    refine seqNil ?_
    refine hF7 _ _ ?_; clear hF7
    -- ret
    refine wpRet (fin1 (v := .bool _) rfl rfl ?_)
    exact ⟨by rw [decide_eq_false (fun e => by rw [Lk.eq_iff] at e; have := congrArg List.length e.2.2.2; rw [fly_len, fly_len] at this; exact hlen this)], hE⟩
  · skip
    have hlen : a.fly.length = b.fly.length := by simp at hlen; omega
    have hpat : a.pat = b.pat := by rw [bytesEqL] at h13; simpa using h13
    have hnow : a.now = b.now := by simpa using h20
    have hsent : a.sent = b.sent := by simpa using h27
    refine wpSkip ?_
    refine hF2 _ _ ?_; clear hF2
    refine wpSeq fun F8 hF8 => ?_
    refine wpSeq fun F9 hF9 => ?_
    refine wpRegion ?_
    refine seqQ rfl rfl (yAssign (v := .int _ _) rfl rfl) ?_
    refine seqNil ?_
    refine hF9 _ _ ?_; clear hF9
    -- loop
    refine wpBlock ?_
    refine wpLoopS [4, 5, 36, 37, 38, 39, 40, 41, 42, 43, 44, 45, 46, 47, 48, 49, 50, 51, 52, 53, 54, 55, 56, 57, 58, 59, 60, 61, 62, 63, 64, 65, 66, 67, 68, 69, 70, 71, 72] (fun k : Nat => [(5, .int .i64 k)]) (fun k H' => k ≤ a.fly.length ∧ (a.fly.map FH.fl).take k = (b.fly.map FH.fl).take k ∧ H' = H3) (fun k => a.fly.length - k) 0 ⟨rfl, trivial⟩ ⟨Nat.zero_le _, rfl, rfl⟩ ?_
    rintro k J H4 ⟨hk, he, rfl⟩
    refine wpSeq fun F10 hF10 => ?_
    refine wpSeq fun F11 hF11 => ?_
    refine wpRegion ?_
    refine seqQ rfl rfl (yMove (v := .int _ _) rfl rfl) ?_
    refine seqQ rfl rfl (yFieldAddr rfl Try.underlying25 rfl Try.sizeOf23 rfl rfl) ?_
    refine seqQ rfl rfl (yLoad rfl Try.underlying23 rfl rfl (h2.cell rfl)) ?_
    refine seqQ rfl rfl (yLen rfl Try.underlying23 rfl) ?_
    refine seqQ rfl rfl (yLss rfl rfl rfl) ?_
    refine seqNil ?_
    refine hF11 _ _ ?_; clear hF11
    -- if t40
    refine wpIf rfl (fun hlt => ?_) (fun hlt => ?_)
    · skip
      have hkx : k < a.fly.length := by omega
      have hky : k < b.fly.length := by omega
      obtain ⟨p, ep, hp⟩ := ha.fly.at hkx
      obtain ⟨q, eq, hq⟩ := hb.fly.at hky
      have hbad : ¬ a.fly[k].fl = b.fly[k].fl → ¬ a.lk = b.lk := fun hn e => hn (by
        have := congrArg (fun l : Lk => l.fly[k]?) e
        simpa [LH.lk, hkx, hky] using this)
      refine wpSkip ?_
      refine hF10 _ _ ?_; clear hF10
      refine wpSeq fun F12 hF12 => ?_
      refine wpBlock ?_
      refine wpSeq fun F13 hF13 => ?_
      refine wpRegionD Try_mixed [.q, .q, .q, .q, .q, .q, .q, .q, .q, .q, .q, .q, .q, .q, .q, .q, .q, .q, .q, .q, .q, .q, .q, .q, .q, .q, .q, .q, .q, .q] 28 [0, 1, 0, 7, 15, 31, 0, 64, 0, 448, 960, 1984, 4095, 8191, 16383, 32767, 16383, 131071, 262143, 524287, 1048575, 16383, 2113535, 16383, 14696447, 31473663, 65028095, 132136959, 268435455, 536870911] [] (by kernel_rfl) _ rfl [0, 1, 2, 3, 4, 5, 6, 7, 8, 9, 10, 11, 12, 13, 14, 15, 16, 17, 18, 19, 20, 21, 22, 23, 24, 25, 26, 27] rfl (by simp) ?_
      refine lexQ rfl rfl rfl rfl (fun H hM => (yFieldAddr rfl Try.underlying25 rfl Try.sizeOf23 rfl rfl)) ?_
      refine lexQ rfl rfl rfl rfl (fun H hM => (yLoad rfl Try.underlying23 rfl rfl (hM.ext.cell (h2.cell rfl)))) ?_
      refine lexQ rfl rfl rfl rfl (fun H hM => (yMove (v := .int _ _) rfl rfl)) ?_
      refine lexQ rfl rfl rfl rfl (fun H hM => (yIdxP rfl Try.underlying23 Try.sizeOf63 rfl rfl ep rfl hkx)) ?_
      refine lexQ rfl rfl rfl rfl (fun H hM => (yFieldAddr rfl Try.underlying63 rfl Try.sizeOf3 rfl rfl)) ?_
      refine lexQ rfl rfl rfl rfl (fun H hM => (yLoad rfl Try.underlying3 rfl rfl (hM.ext.cell (hp 0 _ rfl)))) ?_
      refine lexQ rfl rfl rfl rfl (fun H hM => (yFieldAddr rfl Try.underlying25 rfl Try.sizeOf23 rfl rfl)) ?_
      refine lexQ rfl rfl rfl rfl (fun H hM => (yLoad rfl Try.underlying23 rfl rfl (hM.ext.cell (h3.cell rfl)))) ?_
      refine lexQ rfl rfl rfl rfl (fun H hM => (yMove (v := .int _ _) rfl rfl)) ?_
      refine lexQ rfl rfl rfl rfl (fun H hM => (yIdxP rfl Try.underlying23 Try.sizeOf63 rfl rfl eq rfl hky)) ?_
      refine lexQ rfl rfl rfl rfl (fun H hM => (yFieldAddr rfl Try.underlying63 rfl Try.sizeOf3 rfl rfl)) ?_
      refine lexQ rfl rfl rfl rfl (fun H hM => (yLoad rfl Try.underlying3 rfl rfl (hM.ext.cell (hq 0 _ rfl)))) ?_
      refine lexQ rfl rfl rfl rfl (fun H hM => (yNeq rfl rfl rfl)) ?_
      first | refine lexG rfl rfl rfl rfl rfl rfl (fun h56 => ?_) (fun h56 => ?_) | refine lexGB rfl rfl rfl rfl rfl rfl (fun h56 => ?_) (fun h56 => ?_)
      · skip
        refine lexU rfl rfl rfl ?_
        refine lexU rfl rfl rfl ?_
        refine lexU rfl rfl rfl ?_
        refine lexU rfl rfl rfl ?_
        refine lexU rfl rfl rfl ?_
        refine lexU rfl rfl rfl ?_
        refine lexU rfl rfl rfl ?_
        refine lexU rfl rfl rfl ?_
        refine lexU rfl rfl rfl ?_
        refine lexU rfl rfl rfl ?_
        refine lexU rfl rfl rfl ?_
        refine lexU rfl rfl rfl ?_
        refine lexU rfl rfl rfl ?_
        refine lexU rfl rfl rfl ?_
        refine lexNil0 rfl (fun hM => ?_)
        refine seqU rfl rfl ?_
        refine seqQ rfl rfl (yPickT (v := .bool _) rfl rfl rfl) ?_
        refine seqNil ?_
        refine hF13 _ _ ?_; clear hF13
        refine wpT rfl ?_
        refine wpSeq fun F14 hF14 => ?_
        refine wpRegion ?_
        refine seqQ rfl rfl (yAssign (v := .bool _) rfl rfl) ?_
        refine seqNil ?_
        refine hF14 _ _ ?_; clear hF14
        refine wpRet (fin1 (v := .bool _) rfl rfl ?_)
        exact ⟨by rw [decide_eq_false (hbad fun e => by have := congrArg Prod.fst e; simp at h56; exact h56 this)], hE⟩
      refine lexQ rfl rfl rfl rfl (fun H hM => (yFieldAddr rfl Try.underlying25 rfl Try.sizeOf23 rfl rfl)) ?_
      refine lexQ rfl rfl rfl rfl (fun H hM => (yLoad rfl Try.underlying23 rfl rfl (hM.ext.cell (h2.cell rfl)))) ?_
      refine lexQ rfl rfl rfl rfl (fun H hM => (yMove (v := .int _ _) rfl rfl)) ?_
      refine lexQ rfl rfl rfl rfl (fun H hM => (yIdxP rfl Try.underlying23 Try.sizeOf63 rfl rfl ep rfl hkx)) ?_
      refine lexQ rfl rfl rfl rfl (fun H hM => (yFieldAddr rfl Try.underlying63 rfl Try.sizeOf22 rfl rfl)) ?_
      refine lexQ rfl rfl rfl rfl (fun H hM => (yLoad rfl Try.underlying22 rfl rfl (hM.ext.cell (hp 1 _ rfl)))) ?_
      refine lexQ rfl rfl rfl rfl (fun H hM => (yBytesStr rfl Try.underlying22 Try.underlying9 Try.underlying5 rfl rfl ((ha.data _ (List.getElem_mem hkx)).ext hM.ext))) ?_
      refine lexQ rfl rfl rfl rfl (fun H hM => (yFieldAddr rfl Try.underlying25 rfl Try.sizeOf23 rfl rfl)) ?_
      refine lexQ rfl rfl rfl rfl (fun H hM => (yLoad rfl Try.underlying23 rfl rfl (hM.ext.cell (h3.cell rfl)))) ?_
      refine lexQ rfl rfl rfl rfl (fun H hM => (yMove (v := .int _ _) rfl rfl)) ?_
      refine lexQ rfl rfl rfl rfl (fun H hM => (yIdxP rfl Try.underlying23 Try.sizeOf63 rfl rfl eq rfl hky)) ?_
      refine lexQ rfl rfl rfl rfl (fun H hM => (yFieldAddr rfl Try.underlying63 rfl Try.sizeOf22 rfl rfl)) ?_
      refine lexQ rfl rfl rfl rfl (fun H hM => (yLoad rfl Try.underlying22 rfl rfl (hM.ext.cell (hq 1 _ rfl)))) ?_
      refine lexQ rfl rfl rfl rfl (fun H hM => (yBytesStr rfl Try.underlying22 Try.underlying9 Try.underlying5 rfl rfl ((hb.data _ (List.getElem_mem hky)).ext hM.ext))) ?_
      -- tail
      refine lexNil0 rfl (fun hM => ?_)
      refine seqQ rfl rfl (yNeqS rfl rfl rfl) ?_
      refine seqQ rfl rfl (yPickF (v := .bool _) rfl rfl rfl) ?_
      refine seqNil ?_
      refine hF13 _ _ ?_; clear hF13
      -- if t72
      refine wpCond rfl (fun hn => ?_) (fun hn => ?_)
      · skip
        rw [bytesEqL] at hn
        refine wpSeq fun F15 hF15 => ?_
        refine wpRegion ?_
        refine seqQ rfl rfl (yAssign (v := .bool _) rfl rfl) ?_
        refine seqNil ?_
        refine hF15 _ _ ?_; clear hF15
        -- ret
        refine wpRet (fin1 (v := .bool _) rfl rfl ?_)
        exact ⟨by rw [decide_eq_false (hbad fun e => by have := congrArg Prod.snd e; simp at hn; exact hn this)], hE⟩
      · skip
        rw [bytesEqL] at hn
        have hn : a.fly[k].fl = b.fly[k].fl := Prod.ext (show a.fly[k].due = b.fly[k].due by simpa using h56) (show a.fly[k].data = b.fly[k].data by simpa using hn)
        refine wpSkip ?_
        refine hF12 _ _ ?_; clear hF12
        refine wpRegion ?_
        refine seqQ rfl rfl (yMove (v := .int _ _) rfl rfl) ?_
        refine seqQ rfl rfl (yAdd rfl rfl rfl (by unfold In64; omega)) ?_
        refine seqQ rfl rfl (yAssign (v := .int _ _) rfl rfl) ?_
        refine seqNil ?_
        -- end loop
        refine loopEnd (k + 1) (by repeat (first | (with_reducible exact Agree.refl _ _) | refine Agree.upd ?_ rfl | refine Agree.over ?_ rfl)) (by omega) ⟨rfl, trivial⟩ ⟨hkx, ?_, rfl⟩
        rw [List.take_succ_eq_append_getElem (by simpa using hkx), List.take_succ_eq_append_getElem (by simpa using hky), he, List.getElem_map, List.getElem_map, hn]
    · skip
      obtain rfl : k = a.fly.length := by omega
      refine wpExit ?_
      refine hF8 _ _ ?_; clear hF8
      refine wpSeq fun F16 hF16 => ?_
      refine wpRegion ?_
      refine seqQ rfl rfl (yAssign (v := .bool _) rfl rfl) ?_
      refine seqNil ?_
      refine hF16 _ _ ?_; clear hF16
      -- ret
      refine wpRet (fin1 (v := .bool _) rfl rfl ?_)
      rw [List.take_of_length_le (by simp), List.take_of_length_le (by simp [hlen])] at he
      exact ⟨by rw [decide_eq_true ((Lk.eq_iff _ _).2 ⟨hpat, hnow, hsent, he⟩)], hE⟩
set_option maxRecDepth 100000 in
theorem sameAll_c (A B : Option Addr) (ca cb : Nat) (x y : List BH) (H : Heap) (hA : Rd eBH H A x) (hB : Rd eBH H B y) (dA : ∀ z ∈ x, Rd eByte H z.A z.data) (dB : ∀ z ∈ y, Rd eByte H z.A z.data) (hl : x.length ≤ 100000) :
    CallsH Try.prog 18 [.slice A x.length ca, .slice B y.length cb] H fun v H' => v = .bool (decide (x.map BH.data = y.map BH.data)) ∧ H' = H := by
  refine callsH_of Try.func18 rfl Try.ntmps18 (Nat.le_of_ble_eq_true rfl) ?_
  refine wpSeq fun F1 hF1 => ?_
  refine wpRegion ?_
  refine seqQ rfl rfl (yAssign (v := .bool _) rfl rfl) ?_
  refine seqNil ?_
  refine hF1 _ _ ?_; clear hF1
  refine wpSeq fun F2 hF2 => ?_
  refine wpSeq fun F3 hF3 => ?_
  refine wpRegion ?_
  refine seqQ rfl rfl (yMove (v := .slice _ _ _) rfl rfl) ?_
  refine seqQ rfl rfl (yLen rfl Try.underlying31 rfl) ?_
  refine seqQ rfl rfl (yMove (v := .slice _ _ _) rfl rfl) ?_
  refine seqQ rfl rfl (yLen rfl Try.underlying31 rfl) ?_
  refine seqQ rfl rfl (yNeq rfl rfl rfl) ?_
  refine seqNil ?_
  refine hF3 _ _ ?_; clear hF3
  -- if t10
  refine wpCond rfl (fun hlen => ?_) (fun hlen => ?_)
  · skip
    refine wpSeq fun F4 hF4 => ?_
    refine wpRegion ?_
    refine seqQ rfl rfl (yAssign (v := .bool _) rfl rfl) ?_
    refine seqNil ?_
    refine hF4 _ _ ?_; clear hF4
    -- ret
    refine wpRet (fin1 (v := .bool _) rfl rfl ?_)
    have hlen : x.length ≠ y.length := by simp at hlen; omega
    exact ⟨by rw [decide_eq_false (fun e => hlen (by have := congrArg List.length e; simpa using this))], rfl⟩
  · skip
    have hlen : x.length = y.length := by simp at hlen; omega
    refine wpSkip ?_
    refine hF2 _ _ ?_; clear hF2
    refine wpSeq fun F5 hF5 => ?_
    refine wpSeq fun F6 hF6 => ?_
    refine wpRegion ?_
    refine seqQ rfl rfl (yAssign (v := .int _ _) rfl rfl) ?_
    refine seqNil ?_
    refine hF6 _ _ ?_; clear hF6
    -- loop
    refine wpBlock ?_
    refine wpLoopS [4, 5, 11, 12, 13, 14, 15, 16, 17, 18, 19, 20, 21, 22, 23, 24, 25, 26, 27] (fun k : Nat => [(5, .int .i64 k)]) (fun k H' => k ≤ x.length ∧ (x.map BH.data).take k = (y.map BH.data).take k ∧ H' = H) (fun k => x.length - k) 0 ⟨rfl, trivial⟩ ⟨Nat.zero_le _, rfl, rfl⟩ ?_
    rintro k J H1 ⟨hk, he, rfl⟩
    refine wpSeq fun F7 hF7 => ?_
    refine wpSeq fun F8 hF8 => ?_
    refine wpRegion ?_
    refine seqQ rfl rfl (yMove (v := .int _ _) rfl rfl) ?_
    refine seqQ rfl rfl (yMove (v := .slice _ _ _) rfl rfl) ?_
    refine seqQ rfl rfl (yLen rfl Try.underlying31 rfl) ?_
    refine seqQ rfl rfl (yLss rfl rfl rfl) ?_
    refine seqNil ?_
    refine hF8 _ _ ?_; clear hF8
    -- if t14
    refine wpIf rfl (fun hlt => ?_) (fun hlt => ?_)
    · skip
      have hkx : k < x.length := by omega
      have hky : k < y.length := by omega
      obtain ⟨p, ep, hp⟩ := hA.at1 hkx
      obtain ⟨q, eq, hq⟩ := hB.at1 hky
      refine wpSkip ?_
      refine hF7 _ _ ?_; clear hF7
      refine wpSeq fun F9 hF9 => ?_
      refine wpBlock ?_
      refine wpSeq fun F10 hF10 => ?_
      refine wpRegionD Try_mixed [.q, .q, .q, .q, .q, .q, .q, .q, .q, .q, .q] 10 [0, 0, 3, 7, 15, 0, 0, 96, 224, 480, 1023] [] (by kernel_rfl) _ rfl [0, 1, 2, 3, 4, 5, 6, 7, 8, 9] rfl (by simp) ?_
      refine lexQ rfl rfl rfl rfl (fun H hM => (yMove (v := .slice _ _ _) rfl rfl)) ?_
      refine lexQ rfl rfl rfl rfl (fun H hM => (yMove (v := .int _ _) rfl rfl)) ?_
      refine lexQ rfl rfl rfl rfl (fun H hM => (yIdxP1 rfl Try.underlying31 Try.sizeOf22 rfl rfl ep rfl hkx)) ?_
      refine lexQ rfl rfl rfl rfl (fun H hM => (yLoad rfl Try.underlying22 rfl rfl (hM.ext.cell hp))) ?_
      refine lexQ rfl rfl rfl rfl (fun H hM => (yBytesStr rfl Try.underlying22 Try.underlying9 Try.underlying5 rfl rfl ((dA _ (List.getElem_mem hkx)).ext hM.ext))) ?_
      refine lexQ rfl rfl rfl rfl (fun H hM => (yMove (v := .slice _ _ _) rfl rfl)) ?_
      refine lexQ rfl rfl rfl rfl (fun H hM => (yMove (v := .int _ _) rfl rfl)) ?_
      refine lexQ rfl rfl rfl rfl (fun H hM => (yIdxP1 rfl Try.underlying31 Try.sizeOf22 rfl rfl eq rfl hky)) ?_
      refine lexQ rfl rfl rfl rfl (fun H hM => (yLoad rfl Try.underlying22 rfl rfl (hM.ext.cell hq))) ?_
      refine lexQ rfl rfl rfl rfl (fun H hM => (yBytesStr rfl Try.underlying22 Try.underlying9 Try.underlying5 rfl rfl ((dB _ (List.getElem_mem hky)).ext hM.ext))) ?_
      -- tail
      refine lexNil0 rfl (fun hM => ?_)
      refine seqQ rfl rfl (yNeqS rfl rfl rfl) ?_
      refine seqNil ?_
      refine hF10 _ _ ?_; clear hF10
      -- if t27
      refine wpCond rfl (fun hn => ?_) (fun hn => ?_)
      · skip
        rw [bytesEqL] at hn
        have hn : ¬ x[k].data = y[k].data := by simpa using hn
        refine wpSeq fun F11 hF11 => ?_
        refine wpRegion ?_
        refine seqQ rfl rfl (yAssign (v := .bool _) rfl rfl) ?_
        refine seqNil ?_
        refine hF11 _ _ ?_; clear hF11
        -- ret
        refine wpRet (fin1 (v := .bool _) rfl rfl ?_)
        have hne : ¬ x.map BH.data = y.map BH.data := fun e => hn (by
          have := congrArg (fun l : List (List UInt8) => l[k]?) e
          simpa [hkx, hky] using this)
        exact ⟨by rw [decide_eq_false hne], rfl⟩
      · skip
        rw [bytesEqL] at hn
        have hn : x[k].data = y[k].data := by simpa using hn
        refine wpSkip ?_
        refine hF9 _ _ ?_; clear hF9
        refine wpRegion ?_
        refine seqQ rfl rfl (yMove (v := .int _ _) rfl rfl) ?_
        refine seqQ rfl rfl (yAdd rfl rfl rfl (by unfold In64; omega)) ?_
        refine seqQ rfl rfl (yAssign (v := .int _ _) rfl rfl) ?_
        refine seqNil ?_
        -- end loop
        refine loopEnd (k + 1) (by repeat (first | (with_reducible exact Agree.refl _ _) | refine Agree.upd ?_ rfl | refine Agree.over ?_ rfl)) (by omega) ⟨rfl, trivial⟩ ⟨hkx, ?_, rfl⟩
        rw [List.take_succ_eq_append_getElem (by simpa using hkx), List.take_succ_eq_append_getElem (by simpa using hky), he, List.getElem_map, List.getElem_map, hn]
    · skip
      obtain rfl : k = x.length := by omega
      refine wpExit ?_
      refine hF5 _ _ ?_; clear hF5
      refine wpSeq fun F12 hF12 => ?_
      refine wpRegion ?_
      refine seqQ rfl rfl (yAssign (v := .bool _) rfl rfl) ?_
      refine seqNil ?_
      refine hF12 _ _ ?_; clear hF12
      -- ret
      refine wpRet (fin1 (v := .bool _) rfl rfl ?_)
      rw [List.take_of_length_le (by simp), List.take_of_length_le (by simp [hlen])] at he
      exact ⟨by rw [decide_eq_true he], rfl⟩
/-- Few and short copies. -/
def FewL (l : LH) : Prop := (∀ k, k < l.fly.length → (l.lk.fly.getD k (0, [])).2.length ≤ 60) ∧ l.fly.length ≤ 20 ∧ l.pat.length ≤ 300
instance (l : LH) : Decidable (FewL l) := by unfold FewL; infer_instance
set_option maxRecDepth 100000 in
theorem FewL.data {l : LH} (h : FewL l) : ∀ x ∈ l.fly, x.data.length ≤ 60 := fun x hx => by
  obtain ⟨k, hk, rfl⟩ := List.getElem_of_mem hx
  have := h.1 k hk
  rw [getD_fl l hk] at this
  exact this
set_option maxRecDepth 100000 in
theorem FewL.sm {l : LH} (h : FewL l) : LkSm l := ⟨by have := h.2.2; omega, by have := h.2.1; omega, fun x hx => by have := h.data x hx; omega⟩
set_option maxRecDepth 100000 in
theorem fewL_c (l : LH) (H : Heap) (h : LkRd H l) (hl : l.fly.length ≤ 9223372036854775807) :
    CallsH Try.prog 10 [.agg (lkC l).toArray] H fun v H' => v = .bool (decide (FewL l)) ∧ Ext H H' := by
  refine callsH_of Try.func10 rfl Try.ntmps10 (Nat.le_of_ble_eq_true rfl) ?_
  refine wpSeq fun F1 hF1 => ?_
  refine wpRegion ?_
  refine seqN rfl rfl (nBoxA rfl rfl) (fun g1 H1 hx1 hB1 hg1 hl1 => ?_)
  refine seqQ rfl rfl (yAssign (v := .bool _) rfl rfl) ?_
  refine seqNil ?_
  refine hF1 _ _ ?_; clear hF1
  refine wpSeq fun F2 hF2 => ?_
  refine wpSeq fun F3 hF3 => ?_
  -- region 1
  have hrf := h.fly.ext hx1
  refine wpRegion ?_
  refine seqQ rfl rfl (yAssign (v := .int _ _) rfl rfl) ?_
  refine seqNil ?_
  refine hF3 _ _ ?_; clear hF3
  -- loop
  refine wpBlock ?_
  refine wpLoopS [2, 3, 4, 5, 6, 7, 8, 9, 10, 11, 12, 13, 14, 15, 16, 17, 18] (fun k : Nat => [(3, .int .i64 k)]) (fun k H' => k ≤ l.fly.length ∧ (∀ j, j < k → (l.lk.fly.getD j (0, [])).2.length ≤ 60) ∧ H' = H1) (fun k => l.fly.length - k) 0 ⟨rfl, trivial⟩ ⟨Nat.zero_le _, fun j hj => absurd hj (by omega), rfl⟩ ?_
  rintro k J Hk ⟨hk, ho, rfl⟩
  refine wpSeq fun F4 hF4 => ?_
  refine wpSeq fun F5 hF5 => ?_
  refine wpRegion ?_
  refine seqQ rfl rfl (yMove (v := .int _ _) rfl rfl) ?_
  refine seqQ rfl rfl (yFieldAddr rfl Try.underlying25 rfl Try.sizeOf23 rfl rfl) ?_
  refine seqQ rfl rfl (yLoad rfl Try.underlying23 rfl rfl (hB1.cell rfl)) ?_
  refine seqQ rfl rfl (yLen rfl Try.underlying23 rfl) ?_
  refine seqQ rfl rfl (yLss rfl rfl rfl) ?_
  refine seqNil ?_
  refine hF5 _ _ ?_; clear hF5
  -- if t8
  refine wpIf rfl (fun hlt => ?_) (fun hlt => ?_)
  · skip
    have hk : k < l.fly.length := by omega
    obtain ⟨p, ep, hp⟩ := hrf.at hk
    have hgk := getD_fl l hk
    refine wpSkip ?_
    refine hF4 _ _ ?_; clear hF4
    refine wpSeq fun F6 hF6 => ?_
    refine wpBlock ?_
    refine wpSeq fun F7 hF7 => ?_
    refine wpRegion ?_
    refine seqQ rfl rfl (yFieldAddr rfl Try.underlying25 rfl Try.sizeOf23 rfl rfl) ?_
    refine seqQ rfl rfl (yLoad rfl Try.underlying23 rfl rfl (hB1.cell rfl)) ?_
    refine seqQ rfl rfl (yMove (v := .int _ _) rfl rfl) ?_
    refine seqQ rfl rfl (yIdxP rfl Try.underlying23 Try.sizeOf63 rfl rfl ep rfl hk) ?_
    refine seqQ rfl rfl (yFieldAddr rfl Try.underlying63 rfl Try.sizeOf22 rfl rfl) ?_
    refine seqQ rfl rfl (yLoad rfl Try.underlying22 rfl rfl (hp 1 _ rfl)) ?_
    refine seqQ rfl rfl (yLen rfl Try.underlying22 rfl) ?_
    refine seqQ rfl rfl (yGtr rfl rfl rfl) ?_
    refine seqNil ?_
    refine hF7 _ _ ?_; clear hF7
    -- if t18
    refine wpIf rfl (fun h60 => ?_) (fun h60 => ?_)
    · skip
      refine wpSeq fun F8 hF8 => ?_
      refine wpRegion ?_
      refine seqQ rfl rfl (yAssign (v := .bool _) rfl rfl) ?_
      refine seqNil ?_
      refine hF8 _ _ ?_; clear hF8
      -- ret
      refine wpRet (fin1 (v := .bool _) rfl rfl ?_)
      exact ⟨by rw [decide_eq_false (fun hf => by have := hf.1 k hk; rw [hgk] at this; dsimp only at this; omega)], hx1⟩
    · skip
      refine wpSkip ?_
      refine hF6 _ _ ?_; clear hF6
      refine wpRegion ?_
      refine seqQ rfl rfl (yMove (v := .int _ _) rfl rfl) ?_
      refine seqQ rfl rfl (yAdd rfl rfl rfl (by unfold In64; omega)) ?_
      refine seqQ rfl rfl (yAssign (v := .int _ _) rfl rfl) ?_
      refine seqNil ?_
      -- end loop
      exact loopEnd (k + 1) (by repeat (first | (with_reducible exact Agree.refl _ _) | refine Agree.upd ?_ rfl | refine Agree.over ?_ rfl)) (by omega) ⟨rfl, trivial⟩ ⟨hk, fun j hj => by
        by_cases e : j = k
        · subst e
          rw [hgk]
          dsimp only
          omega
        · exact ho j (by omega), rfl⟩
  · skip
    obtain rfl : k = l.fly.length := by omega
    refine wpExit ?_
    refine hF2 _ _ ?_; clear hF2
    refine wpSeq fun F9 hF9 => ?_
    refine wpRegion ?_
    refine seqQ rfl rfl (yFieldAddr rfl Try.underlying25 rfl Try.sizeOf23 rfl rfl) ?_
    refine seqQ rfl rfl (yLoad rfl Try.underlying23 rfl rfl (hB1.cell rfl)) ?_
    refine seqQ rfl rfl (yLen rfl Try.underlying23 rfl) ?_
    refine seqQ rfl rfl (yLeq rfl rfl rfl) ?_
    first | refine seqG rfl rfl rfl rfl (fun h23 => ?_) (fun h23 => ?_) | refine seqGB rfl rfl rfl rfl (fun h23 => ?_) (fun h23 => ?_)
    rotate_left
    · skip
      refine seqU rfl rfl ?_
      refine seqU rfl rfl ?_
      refine seqU rfl rfl ?_
      refine seqU rfl rfl ?_
      refine seqQ rfl rfl (yPickF (v := .bool _) rfl rfl rfl) ?_
      refine seqQ rfl rfl (yAssign (v := .bool _) rfl rfl) ?_
      refine seqNil ?_
      refine hF9 _ _ ?_; clear hF9
      refine wpRet (fin1 (v := .bool _) rfl rfl ?_)
      exact ⟨by congr 1; rw [decide_eq_false (fun hf => by have := hf.2.1; omega)], hx1⟩
    refine seqQ rfl rfl (yFieldAddr rfl Try.underlying25 rfl Try.sizeOf22 rfl rfl) ?_
    refine seqQ rfl rfl (yLoad rfl Try.underlying22 rfl rfl (hB1.cell rfl)) ?_
    refine seqQ rfl rfl (yLen rfl Try.underlying22 rfl) ?_
    refine seqQ rfl rfl (yLeq rfl rfl rfl) ?_
    refine seqQ rfl rfl (yPickT (v := .bool _) rfl rfl rfl) ?_
    refine seqQ rfl rfl (yAssign (v := .bool _) rfl rfl) ?_
    refine seqNil ?_
    refine hF9 _ _ ?_; clear hF9
    -- ret
    refine wpRet (fin1 (v := .bool _) rfl rfl ?_)
    refine ⟨?_, hx1⟩
    congr 1
    exact decide_eq_decide.2 ⟨fun e => ⟨ho, by omega, by omega⟩, fun hf => by have := hf.2.2; omega⟩
set_option maxRecDepth 100000 in
theorem rFate_c (l : LH) (H : Heap) (h : LkRd H l) (hs : 0 ≤ l.sent) (hp : l.pat.length ≤ 1000000) :
    CallsH Try.prog 24 [.agg (lkC l).toArray] H fun v H' => v = .int .u8 ((fate l.lk).toNat : Int) ∧ Ext H H' := by
  refine callsH_of Try.func24 rfl Try.ntmps24 (Nat.le_of_ble_eq_true rfl) ?_
  refine wpSeq fun F1 hF1 => ?_
  refine wpRegion ?_
  refine seqN rfl rfl (nBoxA rfl rfl) (fun g1 H1 hx1 hB1 hg1 hl1 => ?_)
  refine seqQ rfl rfl (yAssign (v := .int _ _) rfl rfl) ?_
  refine seqNil ?_
  refine hF1 _ _ ?_; clear hF1
  refine wpSeq fun F2 hF2 => ?_
  refine wpSeq fun F3 hF3 => ?_
  refine wpRegion ?_
  refine seqQ rfl rfl (yFieldAddr rfl Try.underlying25 rfl Try.sizeOf22 rfl rfl) ?_
  refine seqQ rfl rfl (yLoad rfl Try.underlying22 rfl rfl (hB1.cell rfl)) ?_
  refine seqQ rfl rfl (yLen rfl Try.underlying22 rfl) ?_
  refine seqQ rfl rfl (yEql rfl rfl rfl) ?_
  refine seqNil ?_
  refine hF3 _ _ ?_; clear hF3
  -- if t6
  refine wpIf rfl (fun h0 => ?_) (fun h0 => ?_)
  · skip
    have e : fate l.lk = 0 := if_pos (show l.pat.length = 0 by omega)
    refine wpSeq fun F4 hF4 => ?_
    refine wpRegion ?_
    refine seqQ rfl rfl (yAssign (v := .int _ _) rfl rfl) ?_
    refine seqNil ?_
    refine hF4 _ _ ?_; clear hF4
    -- ret
    refine wpRet (fin1 (v := .int _ _) rfl rfl ?_)
    rw [e]
    exact ⟨rfl, hx1⟩
  · skip
    have h0 : 0 < l.pat.length := by omega
    have hsl : l.sent.toNat % l.pat.length < l.pat.length := Nat.mod_lt _ h0
    obtain ⟨q, eq, hq⟩ := (h.pat.ext hx1).at1 hsl
    have hz : l.sent % (l.pat.length : Int) = ((l.sent.toNat % l.pat.length : Nat) : Int) := by
      rw [Int.natCast_emod]
      congr 1
      omega
    have e : fate l.lk = l.pat[l.sent.toNat % l.pat.length] := by
      have e0 : fate l.lk = l.pat.getD (l.sent.toNat % l.pat.length) 0 := if_neg (show ¬ l.pat.length = 0 by omega)
      rw [e0, List.getD_eq_getElem?_getD, List.getElem?_eq_getElem hsl]
      rfl
    refine wpSkip ?_
    refine hF2 _ _ ?_; clear hF2
    refine wpSeq fun F5 hF5 => ?_
    refine wpRegionD Try_mixed [.q, .q, .q, .q, .q, .q, .q, .q, .q, .q, .q] 8 [0, 1, 0, 4, 0, 16, 48, 124, 255, 511, 1023] [] (by kernel_rfl) _ rfl [0, 1, 2, 3, 4, 5, 6, 7] rfl (by simp) ?_
    refine lexQ rfl rfl rfl rfl (fun H hM => (yFieldAddr rfl Try.underlying25 rfl Try.sizeOf22 rfl rfl)) ?_
    refine lexQ rfl rfl rfl rfl (fun H hM => (yLoad rfl Try.underlying22 rfl rfl (hM.ext.cell (hB1.cell rfl)))) ?_
    refine lexQ rfl rfl rfl rfl (fun H hM => (yFieldAddr rfl Try.underlying25 rfl Try.sizeOf3 rfl rfl)) ?_
    refine lexQ rfl rfl rfl rfl (fun H hM => (yLoad rfl Try.underlying3 rfl rfl (hM.ext.cell (hB1.cell rfl)))) ?_
    refine lexQ rfl rfl rfl rfl (fun H hM => (yFieldAddr rfl Try.underlying25 rfl Try.sizeOf22 rfl rfl)) ?_
    refine lexQ rfl rfl rfl rfl (fun H hM => (yLoad rfl Try.underlying22 rfl rfl (hM.ext.cell (hB1.cell rfl)))) ?_
    refine lexQ rfl rfl rfl rfl (fun H hM => (yLen rfl Try.underlying22 rfl)) ?_
    refine lexQ rfl rfl rfl rfl (fun H hM => (yRem rfl rfl rfl (by omega))) ?_
    -- tail
    refine lexNil0 rfl (fun hM => ?_)
    refine seqQ rfl rfl (yIdxP1 rfl Try.underlying22 Try.sizeOf5 rfl rfl eq hz hsl) ?_
    refine seqQ rfl rfl (yLoad rfl Try.underlying5 rfl rfl hq) ?_
    refine seqQ rfl rfl (yAssign (v := .int _ _) rfl rfl) ?_
    refine seqNil ?_
    refine hF5 _ _ ?_; clear hF5
    -- ret
    refine wpRet (fin1 (v := .int _ _) rfl rfl ?_)
    rw [e]
    exact ⟨rfl, hx1⟩
end Go.Proofs.Ytckbcfldjniafaa
