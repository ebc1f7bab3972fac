/- Package timer: what is valid, as the package and the document ask it. -/
import Derived.Test.YtbicgjleomkhdaaT1
namespace Go.Proofs.Ytbicgjleomkhdaa
open Go.RowKit

set_option maxRecDepth 100000 in
theorem mem_take_map {l : List Tm} {k : Nat} {a : Int} : a ∈ (l.take k).map (·.2) ↔ ∃ i, i < k ∧ i < l.length ∧ (gT l i).2 = a := by
  constructor
  · intro h
    obtain ⟨x, hx, rfl⟩ := List.mem_map.1 h
    obtain ⟨i, hi, rfl⟩ := List.getElem_of_mem hx
    rw [List.length_take] at hi
    exact ⟨i, by omega, by omega, by rw [gT_at (by omega), List.getElem_take]⟩
  · rintro ⟨i, h1, h2, rfl⟩
    rw [gT_at h2]
    exact List.mem_map.2 ⟨_, List.mem_iff_getElem.2 ⟨i, by rw [List.length_take]; omega, by rw [List.getElem_take]⟩, rfl⟩
set_option maxRecDepth 100000 in
theorem tValid_c (A : Option Addr) (c : Nat) (l : List Tm) (H : Heap) (hA : Rd eTm H A l) (hl : l.length ≤ 9223372036854775807) :
    CallsH Try.prog 18 [.slice A l.length c] H fun v H' => v = .bool (decide (ValidT l)) ∧ Ext H H' := by
  refine callsH_of Try.func18 rfl Try.ntmps18 (Nat.le_of_ble_eq_true rfl) ?_
  refine wpSeq fun F1 hF1 => ?_
  refine wpRegion ?_
  refine seqQ rfl rfl (yAssign (v := .bool _) rfl rfl) ?_
  refine seqNil ?_
  refine hF1 _ _ ?_; clear hF1
  refine wpSeq fun F2 hF2 => ?_
  refine wpRegion ?_
  -- e slot 6: makeMap T60 
  refine seqE rfl rfl (stepMakeMap rfl ?_)
  intro g H1 x1 S1 hg1 hg2
  refine seqQ rfl rfl (yAssign (v := .map _) rfl rfl) ?_
  refine seqNil ?_
  refine hF2 _ _ ?_; clear hF2
  refine wpSeq fun F3 hF3 => ?_
  refine wpSeq fun F4 hF4 => ?_
  refine wpRegion ?_
  refine seqQ rfl rfl (yMove (v := .slice _ _ _) rfl rfl) ?_
  refine seqQ rfl rfl (yLen rfl Try.underlying26 rfl) ?_
  refine seqQ rfl rfl (yMove (v := .int _ _) rfl rfl) ?_
  refine seqNil ?_
  refine hF4 _ _ ?_; clear hF4
  -- loop
  refine wpBlock ?_
  refine wpLoopS [2, 4, 5, 9, 10, 11, 12, 13, 14, 15, 16, 17, 18, 19, 20, 21, 22, 23, 24, 25, 26, 27, 28, 29, 30, 31, 32, 33, 34, 35, 36, 37, 38, 39, 40] (fun k : Nat => [(9, .int .i64 k)]) (fun k H' => k ≤ l.length ∧ (∀ i, i < k → OkAt l i) ∧ IntSet H' g ((l.take k).map (·.2)) ∧ Ext H H') (fun k => l.length - k) 0 ⟨rfl, trivial⟩ ⟨by omega, fun i hi => absurd hi (by omega), S1, x1⟩ ?_
  have hgH : H.size ≤ g := hg1
  clear S1 x1 hg1 hg2
  rintro k J H2 ⟨hk, ho, S, hE⟩
  refine wpSeq fun F5 hF5 => ?_
  refine wpRegion ?_
  refine seqQ rfl rfl (yLss rfl rfl rfl) ?_
  refine seqNil ?_
  refine hF5 _ _ ?_; clear hF5
  refine wpSeq fun F6 hF6 => ?_
  -- if t10
  refine wpIf rfl (fun hlt => ?_) (fun hlt => ?_)
  · skip
    have hk : k < l.length := by omega
    have hbad : ¬ OkAt l k → ¬ ValidT l := fun hn hv => hn (hv.1 k hk)
    have ek : gT l k = l[k] := gT_at hk
    obtain ⟨p, ep, hp⟩ := (hA.ext hE).at hk
    refine wpSkip ?_
    refine hF6 _ _ ?_; clear hF6
    refine wpSeq fun F7 hF7 => ?_
    refine wpBlock ?_
    refine wpSeq fun F8 hF8 => ?_
    refine wpRegion ?_
    refine seqQ rfl rfl (yMove (v := .int _ _) rfl rfl) ?_
    refine seqQ rfl rfl (yIdxP rfl Try.underlying26 Try.sizeOf58 rfl rfl ep rfl hk) ?_
    refine seqQ rfl rfl (yLoadC (cs := eTm.F l[k]) rfl Try.underlying58 rfl Try.sizeOf58 rfl hp) ?_
    refine seqN rfl rfl (nAlloc rfl Try.zeroValue58 rfl) (fun g5 H5 hx5 hB5 hg5 hl5 => ?_)
    refine seqQ rfl rfl (yAssign (v := .int _ _) rfl rfl) ?_
    -- e slot None: store T58 t5 t13
    refine seqE0 rfl rfl (stepStoreB rfl (by kernel_rfl) rfl rfl rfl hB5 rfl ?_)
    intro H3 h5 hK3
    have x3 : Ext H2 H3 := hx5.mine hK3 (by simp; omega)
    replace hE := hE.trans x3
    replace S := S.ext x3
    clear hB5 hx5 hK3 x3
    have gl := h5.lt
    refine seqNil ?_
    refine hF8 _ _ ?_; clear hF8
    refine wpSeq fun F9 hF9 => ?_
    refine wpSeq fun F10 hF10 => ?_
    refine wpRegionD Try_mixed [.q, .e, .q, .q, .q, .q, .q, .q, .q, .q, .q, .q, .q, .e, .q, .q, .q, .q, .q, .q, .q, .q, .q] 21 [0, 1, 3, 7, 15, 31, 63, 127, 127, 383, 1023, 2047, 127, 8191, 16383, 32767, 65535, 131071, 262143, 262143, 786431, 2097151, 4194303] [] (by kernel_rfl) _ rfl [0, 1, 2, 3, 4, 5, 6, 7, 8, 9, 10, 11, 12, 13, 14, 15, 16, 17, 18, 19, 20] rfl (by simp) ?_
    refine lexQ rfl rfl rfl rfl (fun H hM => (yLoadB (h5.ext hM.ext) rfl Try.underlying58 rfl Try.sizeOf58 rfl)) ?_
    -- e slot 15: call F26<farandole/timer.proper> t14
    refine lexX0 rfl rfl rfl rfl rfl (by simp) (fun hM15 => stepCall rfl Try.call26 rfl ?_)
    refine (proper_c l[k] _).mono ?_
    rintro v H4 ⟨rfl, x4⟩
    refine ⟨x4, fun _ => ?_⟩
    refine lexQ rfl rfl rfl rfl (fun H hM => (yNot rfl rfl)) ?_
    first | refine lexG rfl rfl rfl rfl rfl rfl (fun h17 => ?_) (fun h17 => ?_) | refine lexGB rfl rfl rfl rfl rfl rfl (fun h17 => ?_) (fun h17 => ?_)
    · skip
      refine lexU rfl rfl rfl ?_
      refine lexU rfl rfl rfl ?_
      refine lexU rfl rfl rfl ?_
      refine lexU rfl rfl rfl ?_
      refine lexU rfl rfl rfl ?_
      refine lexU rfl rfl rfl ?_
      refine lexU rfl rfl rfl ?_
      refine lexU rfl rfl rfl ?_
      refine lexU rfl rfl rfl ?_
      refine lexU rfl rfl rfl ?_
      refine lexU rfl rfl rfl ?_
      refine lexU rfl rfl rfl ?_
      refine lexQ rfl rfl rfl rfl (fun H hM => (yPickT (v := .bool _) rfl rfl rfl)) ?_
      refine lexQ rfl rfl rfl rfl (fun H hM => (yMove (v := .bool true) rfl rfl)) ?_
      refine lexU rfl rfl rfl ?_
      refine lexU rfl rfl rfl ?_
      refine lexU rfl rfl rfl ?_
      refine lexNil0 rfl (fun hM => ?_)
      refine seqU rfl rfl ?_
      refine seqQ rfl rfl (yPickT (v := .bool _) rfl rfl rfl) ?_
      refine seqNil ?_
      refine hF10 _ _ ?_; clear hF10
      refine wpT rfl ?_
      refine wpSeq fun F11 hF11 => ?_
      refine wpRegion ?_
      refine seqQ rfl rfl (yAssign (v := .bool _) rfl rfl) ?_
      refine seqNil ?_
      refine hF11 _ _ ?_; clear hF11
      refine wpRet (fin1 (v := .bool _) rfl rfl ?_)
      exact ⟨by rw [decide_eq_false (hbad fun hf => by have := hf.1; rw [ek] at this; simp [this] at h17)], hE.trans x4⟩
    refine lexQ rfl rfl rfl rfl (fun H hM => (yMove (v := .int _ _) rfl rfl)) ?_
    refine lexQ rfl rfl rfl rfl (fun H hM => (yGtr rfl rfl rfl)) ?_
    -- guard t20
    have h17 : okT l[k] := by simpa using h17
    refine lexG rfl rfl rfl rfl rfl rfl (fun h20 => ?_) (fun h20 => ?_)
    · skip
      have hk1 : k - 1 < l.length := by omega
      have ek1 : gT l (k - 1) = l[k - 1] := gT_at hk1
      obtain ⟨q, eq, hq⟩ := (hA.ext hE).at hk1
      refine lexQ rfl rfl rfl rfl (fun H hM => (yMove (v := .slice _ _ _) rfl rfl)) ?_
      refine lexQ rfl rfl rfl rfl (fun H hM => (yMove (v := .int _ _) rfl rfl)) ?_
      refine lexQ rfl rfl rfl rfl (fun H hM => (ySub rfl rfl rfl (by unfold In64; omega))) ?_
      refine lexQ rfl rfl rfl rfl (fun H hM => (yIdxP rfl Try.underlying26 Try.sizeOf58 rfl rfl eq (by omega) hk1)) ?_
      refine lexQ rfl rfl rfl rfl (fun H hM => (yLoadC (cs := eTm.F l[k - 1]) rfl Try.underlying58 rfl Try.sizeOf58 rfl (fun j u hu => hM.ext.cell (hq j u hu)))) ?_
      refine lexQ rfl rfl rfl rfl (fun H hM => (yLoadB (h5.ext hM.ext) rfl Try.underlying58 rfl Try.sizeOf58 rfl)) ?_
      -- e slot 27: call F27<farandole/timer.order> t25 t26
      refine lexX0 rfl rfl rfl rfl rfl (by simp) (fun hM27 => stepCall rfl Try.call27 rfl ?_)
      refine (order_c l[k - 1] l[k] _).mono ?_
      rintro v H6 ⟨rfl, x6⟩
      refine ⟨x6, fun _ => ?_⟩
      refine lexQ rfl rfl rfl rfl (fun H hM => (yGeq rfl rfl rfl)) ?_
      refine lexQ rfl rfl rfl rfl (fun H hM => (yPickT (v := .bool _) rfl rfl rfl)) ?_
      refine lexQ rfl rfl rfl rfl (fun H hM => (yPickF (v := .bool _) rfl rfl rfl)) ?_
      first | refine lexG rfl rfl rfl rfl rfl rfl (fun h31 => ?_) (fun h31 => ?_) | refine lexGB rfl rfl rfl rfl rfl rfl (fun h31 => ?_) (fun h31 => ?_)
      · skip
        refine lexU rfl rfl rfl ?_
        refine lexU rfl rfl rfl ?_
        refine lexU rfl rfl rfl ?_
        refine lexNil0 rfl (fun hM => ?_)
        refine seqU rfl rfl ?_
        refine seqQ rfl rfl (yPickT (v := .bool _) rfl rfl rfl) ?_
        refine seqNil ?_
        refine hF10 _ _ ?_; clear hF10
        refine wpT rfl ?_
        refine wpSeq fun F12 hF12 => ?_
        refine wpRegion ?_
        refine seqQ rfl rfl (yAssign (v := .bool _) rfl rfl) ?_
        refine seqNil ?_
        refine hF12 _ _ ?_; clear hF12
        refine wpRet (fin1 (v := .bool _) rfl rfl ?_)
        exact ⟨by rw [decide_eq_false (hbad fun hf => by have := (ordT_neg _ _).2 (hf.2.1 (by omega)); rw [ek, ek1] at this; omega)], (hE.trans x4).trans x6⟩
      refine lexQ rfl rfl rfl rfl (fun H hM => (yMove (v := .map _) rfl rfl)) ?_
      refine lexQ rfl rfl rfl rfl (fun H hM => (yFieldAddr rfl Try.underlying58 rfl Try.sizeOf3 rfl rfl)) ?_
      refine lexQ rfl rfl rfl rfl (fun H hM => (yLoad rfl Try.underlying3 rfl rfl (hM.ext.cell (h5.cell rfl)))) ?_
      -- tail
      have hbf : 0 < k → befT (gT l (k - 1)) (gT l k) := fun _ => by
        rw [ek, ek1]
        exact (ordT_neg _ _).1 (by omega)
      refine lexNil0 rfl (fun hM => ?_)
      have hE' := hE.trans (x4.trans x6)
      have S' := S.ext (x4.trans x6)
      have h5' := h5.ext (x4.trans x6)
      refine seqQ rfl rfl (yLookupB (S.ext hM.ext) rfl Try.underlying60 Try.underlying3 Try.zeroValue4 rfl rfl) ?_
      refine seqQ rfl rfl (yPickF (v := .bool _) rfl rfl rfl) ?_
      refine seqNil ?_
      refine hF10 _ _ ?_; clear hF10
      -- if t36
      refine wpIf rfl (fun hin => ?_) (fun hin => ?_)
      · skip
        obtain ⟨i, hi, -, he⟩ := mem_take_map.1 hin
        refine wpSeq fun F13 hF13 => ?_
        refine wpRegion ?_
        refine seqQ rfl rfl (yAssign (v := .bool _) rfl rfl) ?_
        refine seqNil ?_
        refine hF13 _ _ ?_; clear hF13
        -- ret
        refine wpRet (fin1 (v := .bool _) rfl rfl ?_)
        exact ⟨by rw [decide_eq_false (hbad fun hf => hf.2.2 i hi (by rw [he, ek]))], hE'⟩
      · skip
        refine wpSkip ?_
        refine hF9 _ _ ?_; clear hF9
        refine wpRegion ?_
        refine seqQ rfl rfl (yMove (v := .map _) rfl rfl) ?_
        refine seqQ rfl rfl (yFieldAddr rfl Try.underlying58 rfl Try.sizeOf3 rfl rfl) ?_
        refine seqQ rfl rfl (yLoad rfl Try.underlying3 rfl rfl (h5'.cell rfl)) ?_
        -- e slot None: mapUpdate T60 t37 t39 [b:true]
        refine seqE0 rfl rfl (stepMapNew S' hin rfl Try.underlying60 Try.underlying3 rfl rfl rfl ?_)
        intro H7 S7 hK7
        refine seqNil ?_
        refine hF7 _ _ ?_; clear hF7
        refine wpRegion ?_
        refine seqQ rfl rfl (yAdd rfl rfl rfl (by unfold In64; omega)) ?_
        refine seqQ rfl rfl (yMove (v := .int _ _) rfl rfl) ?_
        refine seqNil ?_
        -- end loop
        refine loopEnd (k + 1) (by repeat (first | (with_reducible exact Agree.refl _ _) | refine Agree.upd ?_ rfl | refine Agree.over ?_ rfl)) (by omega) ⟨rfl, trivial⟩ ⟨hk, fun i hi => ?_, ?_, hE'.mine hK7 (by simp; omega)⟩
        · by_cases e : i = k
          · subst e
            refine ⟨by rw [ek]; exact h17, hbf, fun j hj hje => hin (mem_take_map.2 ⟨j, hj, by omega, by rw [hje, ek]⟩)⟩
          · exact ho i (by omega)
        · rw [List.take_succ_eq_append_getElem hk, List.map_append]
          exact S7
    · skip
      have hbf : 0 < k → befT (gT l (k - 1)) (gT l k) := fun h => absurd h (by omega)
      refine lexU rfl rfl rfl ?_
      refine lexU rfl rfl rfl ?_
      refine lexU rfl rfl rfl ?_
      refine lexU rfl rfl rfl ?_
      refine lexU rfl rfl rfl ?_
      refine lexU rfl rfl rfl ?_
      refine lexU rfl rfl rfl ?_
      refine lexU rfl rfl rfl ?_
      refine lexQ rfl rfl rfl rfl (fun H hM => (yPickF (v := .bool _) rfl rfl rfl)) ?_
      refine lexQ rfl rfl rfl rfl (fun H hM => (yPickF (v := .bool _) rfl rfl rfl)) ?_
      refine lexQ rfl rfl rfl rfl (fun H hM => (yMove (v := .bool false) rfl rfl)) ?_
      refine lexQ rfl rfl rfl rfl (fun H hM => (yMove (v := .map _) rfl rfl)) ?_
      refine lexQ rfl rfl rfl rfl (fun H hM => (yFieldAddr rfl Try.underlying58 rfl Try.sizeOf3 rfl rfl)) ?_
      refine lexQ rfl rfl rfl rfl (fun H hM => (yLoad rfl Try.underlying3 rfl rfl (hM.ext.cell (h5.cell rfl)))) ?_
      -- tail
      refine lexNil0 rfl (fun hM => ?_)
      have hE' := hE.trans x4
      have S' := S.ext x4
      have h5' := h5.ext x4
      refine seqQ rfl rfl (yLookupB (S.ext hM.ext) rfl Try.underlying60 Try.underlying3 Try.zeroValue4 rfl rfl) ?_
      refine seqQ rfl rfl (yPickF (v := .bool _) rfl rfl rfl) ?_
      refine seqNil ?_
      refine hF10 _ _ ?_; clear hF10
      -- if t36
      refine wpIf rfl (fun hin => ?_) (fun hin => ?_)
      · skip
        obtain ⟨i, hi, -, he⟩ := mem_take_map.1 hin
        refine wpSeq fun F14 hF14 => ?_
        refine wpRegion ?_
        refine seqQ rfl rfl (yAssign (v := .bool _) rfl rfl) ?_
        refine seqNil ?_
        refine hF14 _ _ ?_; clear hF14
        -- ret
        refine wpRet (fin1 (v := .bool _) rfl rfl ?_)
        exact ⟨by rw [decide_eq_false (hbad fun hf => hf.2.2 i hi (by rw [he, ek]))], hE'⟩
      · skip
        refine wpSkip ?_
        refine hF9 _ _ ?_; clear hF9
        refine wpRegion ?_
        refine seqQ rfl rfl (yMove (v := .map _) rfl rfl) ?_
        refine seqQ rfl rfl (yFieldAddr rfl Try.underlying58 rfl Try.sizeOf3 rfl rfl) ?_
        refine seqQ rfl rfl (yLoad rfl Try.underlying3 rfl rfl (h5'.cell rfl)) ?_
        -- e slot None: mapUpdate T60 t37 t39 [b:true]
        refine seqE0 rfl rfl (stepMapNew S' hin rfl Try.underlying60 Try.underlying3 rfl rfl rfl ?_)
        intro H7 S7 hK7
        refine seqNil ?_
        refine hF7 _ _ ?_; clear hF7
        refine wpRegion ?_
        refine seqQ rfl rfl (yAdd rfl rfl rfl (by unfold In64; omega)) ?_
        refine seqQ rfl rfl (yMove (v := .int _ _) rfl rfl) ?_
        refine seqNil ?_
        -- end loop
        refine loopEnd (k + 1) (by repeat (first | (with_reducible exact Agree.refl _ _) | refine Agree.upd ?_ rfl | refine Agree.over ?_ rfl)) (by omega) ⟨rfl, trivial⟩ ⟨hk, fun i hi => ?_, ?_, hE'.mine hK7 (by simp; omega)⟩
        · by_cases e : i = k
          · subst e
            refine ⟨by rw [ek]; exact h17, hbf, fun j hj hje => hin (mem_take_map.2 ⟨j, hj, by omega, by rw [hje, ek]⟩)⟩
          · exact ho i (by omega)
        · rw [List.take_succ_eq_append_getElem hk, List.map_append]
          exact S7
  · skip
    obtain rfl : k = l.length := by omega
    refine wpExit ?_
    refine hF3 _ _ ?_; clear hF3
    refine wpSeq fun F15 hF15 => ?_
    refine wpRegion ?_
    refine seqQ rfl rfl (yMove (v := .slice _ _ _) rfl rfl) ?_
    refine seqQ rfl rfl (yLen rfl Try.underlying26 rfl) ?_
    refine seqQ rfl rfl (yLeq rfl rfl rfl) ?_
    refine seqQ rfl rfl (yAssign (v := .bool _) rfl rfl) ?_
    refine seqNil ?_
    refine hF15 _ _ ?_; clear hF15
    -- ret
    refine wpRet (fin1 (v := .bool _) rfl rfl ?_)
    exact ⟨by congr 1; rw [decide_eq_decide]; exact ⟨fun h => ⟨ho, by omega⟩, fun h => by have := h.2; omega⟩, hE⟩
end Go.Proofs.Ytbicgjleomkhdaa
