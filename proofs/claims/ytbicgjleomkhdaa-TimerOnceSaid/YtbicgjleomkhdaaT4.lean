/- Package timer: slices of timers: copies, searches by a function, deletions. -/
import Derived.Test.YtbicgjleomkhdaaT3
namespace Go.Proofs.Ytbicgjleomkhdaa
open Go.RowKit

set_option maxRecDepth 100000 in
theorem rd_none {α : Type} {c : El α} {H : Heap} {l : List α} (h : Rd c H none l) : l = [] := by
  cases l with
  | nil => rfl
  | cons x l => obtain ⟨p, e, _⟩ := h (by simp); cases e
set_option maxRecDepth 100000 in
theorem tClone_c (A : Option Addr) (c : Nat) (l : List Tm) (H : Heap) (hA : Rd eTm H A l) (hl : l.length ≤ 1000000000) :
    CallsH Try.prog 25 [.slice A l.length c] H fun v H' => Own eTm 58 H' H.size v l ∧ Ext H H' := by
  refine callsH_of Try.func25 rfl Try.ntmps25 (Nat.le_of_ble_eq_true rfl) ?_
  refine wpSeq fun F1 hF1 => ?_
  refine wpRegion ?_
  refine seqQ rfl rfl (yAssign (v := .slice _ _ _) rfl rfl) ?_
  refine seqNil ?_
  refine hF1 _ _ ?_; clear hF1
  refine wpSeq fun F2 hF2 => ?_
  refine wpSeq fun F3 hF3 => ?_
  refine wpRegion ?_
  refine seqQ rfl rfl (yMove (v := .slice _ _ _) rfl rfl) ?_
  refine seqQ rfl rfl (yEqlNil rfl Try.underlying26 rfl rfl) ?_
  refine seqNil ?_
  refine hF3 _ _ ?_; clear hF3
  -- if t4
  refine wpCond rfl (fun hn => ?_) (fun hn => ?_)
  · skip
    obtain rfl : A = none := by simpa using hn
    obtain rfl := rd_none hA
    refine wpSeq fun F4 hF4 => ?_
    refine wpRegion ?_
    refine seqQ rfl rfl (yAssign (v := .slice _ _ _) rfl rfl) ?_
    refine seqNil ?_
    refine hF4 _ _ ?_; clear hF4
    -- ret
    refine wpRet (fin1 (v := .slice _ _ _) rfl rfl ?_)
    exact ⟨Own.nil _ _, Ext.refl _⟩
  · skip
    refine wpSkip ?_
    refine hF2 _ _ ?_; clear hF2
    refine wpSeq fun F5 hF5 => ?_
    refine wpRegion ?_
    refine seqN rfl rfl (nBuildSliceN (vs := []) rfl Try.underlying26 Try.sizeOf58 Try.zeroValue58 rfl rfl rfl rfl rfl) (fun g5 H5 hx5 hB5 hg5 hl5 => ?_)
    refine seqQ rfl rfl (yMove (v := .slice _ _ _) rfl rfl) ?_
    -- e slot 7: builtin append t5 t6 : [26, 26]
    refine seqE rfl rfl (stepApp (c := eTm) (Own.lit (c := eTm) (l := []) (base := H.size) hB5 hg5 (by simp)) rfl Try.underlying26 elem_eTm rfl (by omega) rfl rfl rfl (hA.ext hx5) (by simp; omega) hx5.size ?_)
    intro v H1 hown hgrew
    obtain ⟨A2, c2, rfl, -⟩ := hown.form
    refine seqQ rfl rfl (yAssign (v := .slice _ _ _) rfl rfl) ?_
    refine seqNil ?_
    refine hF5 _ _ ?_; clear hF5
    -- ret
    refine wpRet (fin1 (v := .slice _ _ _) rfl rfl ?_)
    exact ⟨by simpa using hown, hgrew.ext hx5 (by rintro g e; obtain rfl := Option.some.inj e; exact hg5)⟩
set_option maxRecDepth 100000 in
theorem find1_c (x : Tm) (id : Int) (g : Nat) (H : Heap) (hB : Blk H g [.int .i64 id] 3) : CallsH Try.prog 33 [.agg (eTm.F x).toArray, .pointer (some ⟨g, 0, none⟩)] H fun v H' => v = .bool (decide (x.2 = id)) ∧ Ext H H' := by
  refine callsH_of Try.func33 rfl Try.ntmps33 (Nat.le_of_ble_eq_true rfl) ?_
  refine wpSeq fun F1 hF1 => ?_
  refine wpRegion ?_
  refine seqN rfl rfl (nBoxA rfl rfl) (fun g2 H2 hx2 hB2 hg2 hl2 => ?_)
  refine seqQ rfl rfl (yAssign (v := .bool _) rfl rfl) ?_
  refine seqNil ?_
  refine hF1 _ _ ?_; clear hF1
  refine wpSeq fun F2 hF2 => ?_
  refine wpRegion ?_
  refine seqQ rfl rfl (yFieldAddr rfl Try.underlying58 rfl Try.sizeOf3 rfl rfl) ?_
  refine seqQ rfl rfl (yLoad rfl Try.underlying3 rfl rfl (hB2.cell rfl)) ?_
  refine seqQ rfl rfl (yLoad rfl Try.underlying3 rfl rfl ((hB.ext hx2).cell (j := 0) rfl)) ?_
  refine seqQ rfl rfl (yEql rfl rfl rfl) ?_
  refine seqQ rfl rfl (yAssign (v := .bool _) rfl rfl) ?_
  refine seqNil ?_
  refine hF2 _ _ ?_; clear hF2
  -- ret
  refine wpRet (fin1 (v := .bool _) rfl rfl ?_)
  exact ⟨rfl, hx2⟩
set_option maxRecDepth 100000 in
theorem wout1_c (x : Tm) (id : Int) (g : Nat) (H : Heap) (hB : Blk H g [.int .i64 id] 3) : CallsH Try.prog 37 [.agg (eTm.F x).toArray, .pointer (some ⟨g, 0, none⟩)] H fun v H' => v = .bool (decide (x.2 = id)) ∧ Ext H H' := by
  refine callsH_of Try.func37 rfl Try.ntmps37 (Nat.le_of_ble_eq_true rfl) ?_
  refine wpSeq fun F1 hF1 => ?_
  refine wpRegion ?_
  refine seqN rfl rfl (nBoxA rfl rfl) (fun g2 H2 hx2 hB2 hg2 hl2 => ?_)
  refine seqQ rfl rfl (yAssign (v := .bool _) rfl rfl) ?_
  refine seqNil ?_
  refine hF1 _ _ ?_; clear hF1
  refine wpSeq fun F2 hF2 => ?_
  refine wpRegion ?_
  refine seqQ rfl rfl (yFieldAddr rfl Try.underlying58 rfl Try.sizeOf3 rfl rfl) ?_
  refine seqQ rfl rfl (yLoad rfl Try.underlying3 rfl rfl (hB2.cell rfl)) ?_
  refine seqQ rfl rfl (yLoad rfl Try.underlying3 rfl rfl ((hB.ext hx2).cell (j := 0) rfl)) ?_
  refine seqQ rfl rfl (yEql rfl rfl rfl) ?_
  refine seqQ rfl rfl (yAssign (v := .bool _) rfl rfl) ?_
  refine seqNil ?_
  refine hF2 _ _ ?_; clear hF2
  -- ret
  refine wpRet (fin1 (v := .bool _) rfl rfl ?_)
  exact ⟨rfl, hx2⟩
/-- A function that asks whether a timer has the identifier that lies in a block. -/
structure Asks (f : FuncId) (g : Nat) (id : Int) : Prop where
  call : ∀ (args : Array Value) (w : World), (callFunc f args).run Try.prog w = .ok (.enter f args) w
  runs : ∀ (x : Tm) (H : Heap), Blk H g [.int .i64 id] 3 → CallsH Try.prog f [.agg (eTm.F x).toArray, .pointer (some ⟨g, 0, none⟩)] H fun v H' => v = .bool (decide (x.2 = id)) ∧ Ext H H'
set_option maxRecDepth 100000 in
theorem asks_find (g : Nat) (id : Int) : Asks 33 g id := ⟨Try.call33, fun x H h => find1_c x id g H h⟩
set_option maxRecDepth 100000 in
theorem asks_wout (g : Nat) (id : Int) : Asks 37 g id := ⟨Try.call37, fun x H h => wout1_c x id g H h⟩
set_option maxRecDepth 100000 in
theorem idxF_c {f : FuncId} {g : Nat} {id : Int} (hf : Asks f g id) (A : Option Addr) (c : Nat) (l : List Tm) (H : Heap) (hA : Rd eTm H A l) (hB : Blk H g [.int .i64 id] 3) (hl : l.length ≤ 9223372036854775807) :
    CallsH Try.prog 32 [.slice A l.length c, .func (.func f) #[] #[.pointer (some ⟨g, 0, none⟩)]] H fun v H' => ((v = .int .i64 (-1) ∧ ∀ (i : Nat) (hi : i < l.length), l[i].2 ≠ id) ∨ ∃ (k : Nat) (hk : k < l.length), v = .int .i64 k ∧ l[k].2 = id ∧ ∀ (i : Nat) (hi : i < l.length), i < k → l[i].2 ≠ id) ∧ Ext H H' := by
  refine callsH_of Try.func32 rfl Try.ntmps32 (Nat.le_of_ble_eq_true rfl) ?_
  refine wpSeq fun F1 hF1 => ?_
  refine wpRegion ?_
  refine seqQ rfl rfl (yAssign (v := .int _ _) rfl rfl) ?_
  refine seqNil ?_
  refine hF1 _ _ ?_; clear hF1
  refine wpSeq fun F2 hF2 => ?_
  refine wpSeq fun F3 hF3 => ?_
  refine wpRegion ?_
  refine seqQ rfl rfl (yMove (v := .slice _ _ _) rfl rfl) ?_
  refine seqQ rfl rfl (yLen rfl Try.underlying26 rfl) ?_
  refine seqQ rfl rfl (yMove (v := .int _ _) rfl rfl) ?_
  refine seqNil ?_
  refine hF3 _ _ ?_; clear hF3
  -- loop
  refine wpBlock ?_
  refine wpLoopS [4, 5, 8, 9, 10, 11, 12, 13, 14, 15, 16, 17, 18] (fun k : Nat => [(8, .int .i64 k)]) (fun k H' => k ≤ l.length ∧ (∀ (i : Nat) (hi : i < l.length), i < k → l[i].2 ≠ id) ∧ Ext H H') (fun k => l.length - k) 0 ⟨rfl, trivial⟩ ⟨Nat.zero_le _, fun i _ hi => absurd hi (by omega), Ext.refl _⟩ ?_
  rintro k J H1 ⟨hk, ho, hE⟩
  refine wpSeq fun F4 hF4 => ?_
  refine wpRegion ?_
  refine seqQ rfl rfl (yLss rfl rfl rfl) ?_
  refine seqNil ?_
  refine hF4 _ _ ?_; clear hF4
  refine wpSeq fun F5 hF5 => ?_
  -- if t9
  refine wpIf rfl (fun hlt => ?_) (fun hlt => ?_)
  · skip
    have hk : k < l.length := by omega
    obtain ⟨p, ep, hp⟩ := (hA.ext hE).at hk
    refine wpSkip ?_
    refine hF5 _ _ ?_; clear hF5
    refine wpSeq fun F6 hF6 => ?_
    refine wpBlock ?_
    refine wpSeq fun F7 hF7 => ?_
    refine wpRegion ?_
    refine seqQ rfl rfl (yMove (v := .int _ _) rfl rfl) ?_
    refine seqQ rfl rfl (yAssign (v := .int _ _) rfl rfl) ?_
    refine seqNil ?_
    refine hF7 _ _ ?_; clear hF7
    refine wpSeq fun F8 hF8 => ?_
    refine wpRegion ?_
    refine seqQ rfl rfl (yMove (v := .func _ _ _) rfl rfl) ?_
    refine seqQ rfl rfl (yMove (v := .slice _ _ _) rfl rfl) ?_
    refine seqQ rfl rfl (yMove (v := .int _ _) rfl rfl) ?_
    refine seqQ rfl rfl (yIdxP rfl Try.underlying26 Try.sizeOf58 rfl rfl ep rfl hk) ?_
    refine seqQ rfl rfl (yLoadC (cs := eTm.F l[k]) rfl Try.underlying58 rfl Try.sizeOf58 rfl hp) ?_
    -- e slot 16: callv t11 t15
    refine seqE rfl rfl (stepCallV (first := []) (cap := [.pointer (some ⟨g, 0, none⟩)]) rfl hf.call rfl rfl ?_)
    refine (hf.runs l[k] H1 (hB.ext hE)).mono ?_
    rintro v H2 ⟨rfl, x2⟩
    refine seqNil ?_
    refine hF8 _ _ ?_; clear hF8
    -- if t16
    refine wpIf rfl (fun he => ?_) (fun he => ?_)
    · skip
      refine wpSeq fun F9 hF9 => ?_
      refine wpRegion ?_
      refine seqQ rfl rfl (yMove (v := .int _ _) rfl rfl) ?_
      refine seqQ rfl rfl (yAssign (v := .int _ _) rfl rfl) ?_
      refine seqNil ?_
      refine hF9 _ _ ?_; clear hF9
      -- ret
      refine wpRet (fin1 (v := .int _ _) rfl rfl ?_)
      exact ⟨.inr ⟨k, hk, rfl, he, ho⟩, hE.trans x2⟩
    · skip
      refine wpSkip ?_
      refine hF6 _ _ ?_; clear hF6
      refine wpRegion ?_
      refine seqQ rfl rfl (yAdd rfl rfl rfl (by unfold In64; omega)) ?_
      refine seqQ rfl rfl (yMove (v := .int _ _) rfl rfl) ?_
      refine seqNil ?_
      -- end loop
      refine loopEnd (k + 1) (by repeat (first | (with_reducible exact Agree.refl _ _) | refine Agree.upd ?_ rfl | refine Agree.over ?_ rfl)) (by omega) ⟨rfl, trivial⟩ ⟨hk, fun i hi hik => ?_, hE.trans x2⟩
      by_cases e : i = k
      · subst e
        exact he
      · exact ho i hi (by omega)
  · skip
    refine wpExit ?_
    refine hF2 _ _ ?_; clear hF2
    refine wpSeq fun F10 hF10 => ?_
    refine wpRegion ?_
    refine seqQ rfl rfl (yAssign (v := .int _ _) rfl rfl) ?_
    refine seqNil ?_
    refine hF10 _ _ ?_; clear hF10
    -- ret
    refine wpRet (fin1 (v := .int _ _) rfl rfl ?_)
    exact ⟨.inl ⟨rfl, fun i hi => ho i hi (by omega)⟩, hE⟩
/-- The table without a timer. -/
def woutT (l : List Tm) (id : Int) : List Tm := l.filter fun x => decide (x.2 ≠ id)
set_option maxRecDepth 100000 in
theorem woutT_all {l : List Tm} {id : Int} (h : ∀ (i : Nat) (hi : i < l.length), l[i].2 ≠ id) : woutT l id = l := by
  unfold woutT
  rw [List.filter_eq_self]
  intro x hx
  obtain ⟨i, hi, rfl⟩ := List.getElem_of_mem hx
  simpa using h i hi
set_option maxRecDepth 100000 in
theorem woutT_len (l : List Tm) (id : Int) : (woutT l id).length ≤ l.length := List.length_filter_le _ _
set_option maxRecDepth 100000 in
theorem woutT_take {l : List Tm} {id : Int} {k : Nat} (hk : k < l.length) : woutT (l.take (k + 1)) id = woutT (l.take k) id ++ (if l[k].2 = id then [] else [l[k]]) := by
  rw [List.take_succ_eq_append_getElem hk]
  unfold woutT
  rw [List.filter_append]
  congr 1
  by_cases h : l[k].2 = id
  · rw [if_pos h]
    simp [h]
  · rw [if_neg h]
    simp [h]
set_option maxRecDepth 100000 in
theorem delF_c {f : FuncId} {gi : Nat} {id : Int} (hf : Asks f gi id) (v : Value) (l : List Tm) (base : Nat) (H : Heap) (hown : Own eTm 58 H base v l) (hB : Blk H gi [.int .i64 id] 3) (hne : v.ownBlock ≠ some gi) (hl : l.length ≤ 1000000) :
    CallsH Try.prog 36 [v, .func (.func f) #[] #[.pointer (some ⟨gi, 0, none⟩)]] H fun v' H' => Own eTm 58 H' base v' (woutT l id) ∧ Keep v.ownBlock.toList H H' := by
  obtain ⟨A, cap, rfl, hlc, hrd, hbb⟩ := hown.form
  refine callsH_of Try.func36 rfl Try.ntmps36 (Nat.le_of_ble_eq_true rfl) ?_
  refine wpSeq fun F1 hF1 => ?_
  refine wpRegion ?_
  refine seqQ rfl rfl (yAssign (v := .slice _ _ _) rfl rfl) ?_
  refine seqNil ?_
  refine hF1 _ _ ?_; clear hF1
  refine wpSeq fun F2 hF2 => ?_
  refine wpRegion ?_
  refine seqQ rfl rfl (yMove (v := .slice _ _ _) rfl rfl) ?_
  refine seqQ rfl rfl (yMove (v := .func _ _ _) rfl rfl) ?_
  -- e slot 10: call F32<slices.IndexFunc[farandole/timer.Table,farandole/timer.Timer]> t8 t9
  refine seqE rfl rfl (stepCall rfl Try.call32 rfl ?_)
  refine (idxF_c hf A cap l H hrd hB (by omega)).mono ?_
  rintro v H1 ⟨hv, x1⟩
  rcases hv with ⟨rfl, hno⟩ | ⟨k, hk, rfl, hkid, hno⟩
  · skip
    refine seqQ rfl rfl (yAssign (v := .int _ _) rfl rfl) ?_
    refine seqNil ?_
    refine hF2 _ _ ?_; clear hF2
    refine wpSeq fun F3 hF3 => ?_
    refine wpSeq fun F4 hF4 => ?_
    refine wpRegion ?_
    refine seqQ rfl rfl (yMove (v := .int _ _) rfl rfl) ?_
    refine seqQ rfl rfl (yEql rfl rfl rfl) ?_
    refine seqNil ?_
    refine hF4 _ _ ?_; clear hF4
    -- if t12
    refine wpT rfl ?_
    refine wpSeq fun F5 hF5 => ?_
    refine wpRegion ?_
    refine seqQ rfl rfl (yMove (v := .slice _ _ _) rfl rfl) ?_
    refine seqQ rfl rfl (yAssign (v := .slice _ _ _) rfl rfl) ?_
    refine seqNil ?_
    refine hF5 _ _ ?_; clear hF5
    -- ret
    refine wpRet (fin1 (v := .slice _ _ _) rfl rfl ?_)
    rw [woutT_all hno]
    exact ⟨hown.ext x1, x1.keep _⟩
  · skip
    obtain ⟨p, rfl, -⟩ := hrd.at hk
    obtain ⟨hp1, hp2, hp3⟩ := hbb p rfl
    obtain ⟨g, rfl⟩ : ∃ g, p = ⟨g, 0, none⟩ := ⟨p.block, hp3⟩
    have hp1 : base ≤ g := hp1
    have hp2 : g < H.size := hp2
    have hgi : gi ≠ g := fun e => hne (by rw [e]; rfl)
    refine seqQ rfl rfl (yAssign (v := .int _ _) rfl rfl) ?_
    refine seqNil ?_
    refine hF2 _ _ ?_; clear hF2
    refine wpSeq fun F6 hF6 => ?_
    refine wpSeq fun F7 hF7 => ?_
    refine wpRegion ?_
    refine seqQ rfl rfl (yMove (v := .int _ _) rfl rfl) ?_
    refine seqQ rfl rfl (yEql rfl rfl rfl) ?_
    refine seqNil ?_
    refine hF7 _ _ ?_; clear hF7
    -- if t12
    refine wpCond rfl (fun hm1 => ?_) (fun hm1 => ?_)
    · skip
      have := of_decide_eq_true hm1
      omega
    · skip
      refine wpSkip ?_
      refine hF6 _ _ ?_; clear hF6
      refine wpSeq fun F8 hF8 => ?_
      refine wpSeq fun F9 hF9 => ?_
      refine wpRegion ?_
      refine seqQ rfl rfl (yMove (v := .int _ _) rfl rfl) ?_
      refine seqQ rfl rfl (yAdd rfl rfl rfl (by unfold In64; omega)) ?_
      refine seqQ rfl rfl (yAssign (v := .int _ _) rfl rfl) ?_
      refine seqNil ?_
      refine hF9 _ _ ?_; clear hF9
      -- loop
      have h0 : (l.take (k + 1)).length = k + 1 := by rw [List.length_take]; omega
      have hw : woutT (l.take (k + 1)) id = l.take k := by
        rw [woutT_take hk, if_pos hkid, List.append_nil]
        exact woutT_all fun i hi => by
          rw [List.length_take] at hi
          rw [List.getElem_take]
          exact hno i (by omega) (by omega)
      refine wpBlock ?_
      refine wpLoopS [5, 6, 7, 16, 17, 18, 19, 20, 21, 22, 23, 24, 25, 26, 27, 28, 29, 30, 31, 32, 33, 34, 35] (fun x : Nat × Nat => [(5, .int .i64 x.1), (6, .int .i64 x.2)]) (fun x H' => x.1 < x.2 ∧ x.2 ≤ l.length ∧ Keep [g] H H' ∧ Blk H' gi [.int .i64 id] 3 ∧ ∃ cur : List Tm, cur.length = l.length ∧ cur.take x.1 = woutT (l.take x.2) id ∧ cur.drop x.2 = l.drop x.2 ∧ Own eTm 58 H' base (.slice (some ⟨g, 0, none⟩) l.length cap) cur) (fun x => l.length - x.2) (k, k + 1) ⟨rfl, rfl, trivial⟩ ⟨by dsimp only; omega, by dsimp only; omega, x1.keep _, hB.ext x1, l, rfl, hw.symm, rfl, hown.ext x1⟩ ?_
      rintro ⟨i, j⟩ J H2 ⟨hij, hj, hK, hBi, cur, hcl, hct, hcd, ow⟩
      dsimp only at hij hj hct hcd
      refine wpSeq fun F10 hF10 => ?_
      refine wpSeq fun F11 hF11 => ?_
      refine wpRegion ?_
      refine seqQ rfl rfl (yMove (v := .int _ _) rfl rfl) ?_
      refine seqQ rfl rfl (yMove (v := .slice _ _ _) rfl rfl) ?_
      refine seqQ rfl rfl (yLen rfl Try.underlying26 rfl) ?_
      refine seqQ rfl rfl (yLss rfl rfl rfl) ?_
      refine seqNil ?_
      refine hF11 _ _ ?_; clear hF11
      -- if t19
      refine wpIf rfl (fun hlt => ?_) (fun hlt => ?_)
      · skip
        have hj : j < l.length := by dsimp only at hlt; omega
        have hjc : j < cur.length := by omega
        have ecj : cur[j] = l[j] := by
          have h1 := List.drop_eq_getElem_cons hjc
          have h2 := List.drop_eq_getElem_cons hj
          rw [hcd, h2] at h1
          exact (List.cons.inj h1).1.symm
        have hcd' : cur.drop (j + 1) = l.drop (j + 1) := by
          have := congrArg (List.drop 1) hcd
          rwa [List.drop_drop, List.drop_drop] at this
        obtain ⟨q, eq, hq⟩ := (Own.rd ow).2.at hjc
        rw [ecj] at hq
        refine wpSkip ?_
        refine hF10 _ _ ?_; clear hF10
        refine wpSeq fun F12 hF12 => ?_
        refine wpBlock ?_
        refine wpSeq fun F13 hF13 => ?_
        refine wpRegion ?_
        refine seqQ rfl rfl (yMove (v := .slice _ _ _) rfl rfl) ?_
        refine seqQ rfl rfl (yMove (v := .int _ _) rfl rfl) ?_
        refine seqQ rfl rfl (yIdxP rfl Try.underlying26 Try.sizeOf58 rfl rfl eq rfl hj) ?_
        refine seqQ rfl rfl (yLoadC (cs := eTm.F l[j]) rfl Try.underlying58 rfl Try.sizeOf58 rfl hq) ?_
        refine seqN rfl rfl (nAlloc rfl Try.zeroValue58 rfl) (fun g7 H7 hx7 hB7 hg7 hl7 => ?_)
        -- e slot None: store T58 t7 t25
        refine seqE0 rfl rfl (stepStoreB rfl (by kernel_rfl) rfl rfl rfl hB7 rfl ?_)
        intro H3 h7 hK3
        have x3 : Ext H2 H3 := hx7.mine hK3 (by simp; omega)
        clear hB7 hx7 hK3
        refine seqNil ?_
        refine hF13 _ _ ?_; clear hF13
        refine wpSeq fun F14 hF14 => ?_
        refine wpRegion ?_
        refine seqQ rfl rfl (yMove (v := .func _ _ _) rfl rfl) ?_
        refine seqQ rfl rfl (yLoadB h7 rfl Try.underlying58 rfl Try.sizeOf58 rfl) ?_
        -- e slot 28: callv t26 t27
        refine seqE rfl rfl (stepCallV (first := []) (cap := [.pointer (some ⟨gi, 0, none⟩)]) rfl hf.call rfl rfl ?_)
        refine (hf.runs l[j] H3 (hBi.ext x3)).mono ?_
        rintro v H4 ⟨rfl, x4⟩
        have x24 := x3.trans x4
        replace h7 := h7.ext x4
        replace ow := ow.ext x24
        replace hBi := hBi.ext x24
        replace hK := hK.trans (x24.keep _)
        clear x3 x4 hq
        refine seqQ rfl rfl (yNot rfl rfl) ?_
        refine seqNil ?_
        refine hF14 _ _ ?_; clear hF14
        -- if t29
        refine wpCond rfl (fun hd => ?_) (fun hd => ?_)
        · skip
          have hd : ¬ l[j].2 = id := by simpa using hd
          refine wpSeq fun F15 hF15 => ?_
          refine wpRegion ?_
          refine seqQ rfl rfl (yMove (v := .slice _ _ _) rfl rfl) ?_
          refine seqQ rfl rfl (yMove (v := .int _ _) rfl rfl) ?_
          refine seqQ rfl rfl (yLoadB h7 rfl Try.underlying58 rfl Try.sizeOf58 rfl) ?_
          refine seqQ rfl rfl (yIdx rfl Try.underlying26 Try.sizeOf58 rfl rfl rfl (by dsimp only; omega)) ?_
          -- e slot None: store T58 t33 t32
          refine seqE0 rfl rfl (stepStoreEltS (c := eTm) (i := i) l[j] ow rfl (by kernel_rfl) rfl rfl (by omega) ?_)
          intro H5 o5 hK5
          refine seqNil ?_
          refine hF15 _ _ ?_; clear hF15
          refine wpRegion ?_
          refine seqQ rfl rfl (yMove (v := .int _ _) rfl rfl) ?_
          refine seqQ rfl rfl (yAdd rfl rfl rfl (by unfold In64; omega)) ?_
          refine seqQ rfl rfl (yAssign (v := .int _ _) rfl rfl) ?_
          refine seqNil ?_
          refine hF12 _ _ ?_; clear hF12
          refine wpRegion ?_
          refine seqQ rfl rfl (yMove (v := .int _ _) rfl rfl) ?_
          refine seqQ rfl rfl (yAdd rfl rfl rfl (by unfold In64; omega)) ?_
          refine seqQ rfl rfl (yAssign (v := .int _ _) rfl rfl) ?_
          refine seqNil ?_
          -- end loop
          refine loopEnd (i + 1, j + 1) (by repeat (first | (with_reducible exact Agree.refl _ _) | refine Agree.upd ?_ rfl | refine Agree.over ?_ rfl)) (by dsimp only; omega) ⟨rfl, rfl, trivial⟩ ⟨by dsimp only; omega, hj, hK.trans hK5, hBi.keep hK5 (by simpa using hgi), cur.set i l[j], by rw [List.length_set]; exact hcl, ?_, ?_, o5⟩
          · dsimp only
            rw [woutT_take hj, if_neg hd, ← hct, List.take_succ_eq_append_getElem (by rw [List.length_set]; omega), List.getElem_set_self, List.take_set_of_le (Nat.le_refl _)]
          · dsimp only
            rw [List.drop_set_of_lt (by omega)]
            exact hcd'
        · skip
          have hd : l[j].2 = id := by simpa using hd
          refine wpSkip ?_
          refine hF12 _ _ ?_; clear hF12
          refine wpRegion ?_
          refine seqQ rfl rfl (yMove (v := .int _ _) rfl rfl) ?_
          refine seqQ rfl rfl (yAdd rfl rfl rfl (by unfold In64; omega)) ?_
          refine seqQ rfl rfl (yAssign (v := .int _ _) rfl rfl) ?_
          refine seqNil ?_
          -- end loop
          refine loopEnd (i, j + 1) (by repeat (first | (with_reducible exact Agree.refl _ _) | refine Agree.upd ?_ rfl | refine Agree.over ?_ rfl)) (by dsimp only; omega) ⟨rfl, rfl, trivial⟩ ⟨by dsimp only; omega, hj, hK, hBi, cur, hcl, ?_, hcd', ow⟩
          dsimp only
          rw [woutT_take hj, if_pos hd, List.append_nil]
          exact hct
      · skip
        obtain rfl : j = l.length := by dsimp only at hlt; omega
        rw [List.take_length] at hct
        have hil : i < l.length := hij
        have hwl : (woutT l id).length = i := by rw [← hct, List.length_take]; omega
        obtain ⟨cs, hBc, hcsl, htk, -, -, -, hcm⟩ := ow.raw
        have hcsl : cs.length = cap * 2 := hcsl
        have htk : cs.take (cur.length * 2) = cur.flatMap eTm.F := htk
        refine wpExit ?_
        refine hF8 _ _ ?_; clear hF8
        refine wpSeq fun F16 hF16 => ?_
        refine wpRegion ?_
        refine seqQ rfl rfl (yMove (v := .slice _ _ _) rfl rfl) ?_
        refine seqQ rfl rfl (yMove (v := .int _ _) rfl rfl) ?_
        refine seqQ rfl rfl (ySliceN rfl Try.underlying26 Try.sizeOf58 rfl rfl rfl (by omega) (by omega)) ?_
        -- e slot None: builtin clear t38 : [26]
        refine seqE0 rfl rfl (stepClear (cur := cs) (off := i * 2) rfl Try.underlying26 elem_eTm rfl (fun u hu => by simp [Value.cells] at hu; subst hu; rfl) rfl hBc (by omega) ?_)
        intro H3 zs hzl hB3 hK3
        have hzl : zs.length = (l.length - i) * 2 := hzl
        refine seqNil ?_
        refine hF16 _ _ ?_; clear hF16
        refine wpSeq fun F17 hF17 => ?_
        refine wpRegion ?_
        refine seqQ rfl rfl (yMove (v := .slice _ _ _) rfl rfl) ?_
        refine seqQ rfl rfl (yMove (v := .int _ _) rfl rfl) ?_
        refine seqQ rfl rfl (ySliceH rfl Try.underlying26 Try.sizeOf58 rfl rfl rfl (show i ≤ cap by omega)) ?_
        refine seqQ rfl rfl (yAssign (v := .slice _ _ _) rfl rfl) ?_
        refine seqNil ?_
        refine hF17 _ _ ?_; clear hF17
        -- ret
        refine wpRet (fin1 (v := .slice _ _ _) rfl rfl ?_)
        refine ⟨?_, hK.trans hK3⟩
        have hraw := Own.ofRaw (c := eTm) (l := woutT l id) (base := base) (cap := cap) hB3 (by
          show _ = cap * 2
          simp only [List.length_append, List.length_take, List.length_drop]
          omega) (by
          show List.take ((woutT l id).length * 2) _ = _
          rw [hwl, List.append_assoc, List.take_append_of_le_length (by rw [List.length_take]; omega), List.take_take, Nat.min_self, ← hct]
          have e1 : cs.take (i * 2) = (cs.take (cur.length * 2)).take (i * 2) := by rw [List.take_take, Nat.min_eq_left (by omega)]
          have e2 : cur.flatMap eTm.F = (cur.take i).flatMap eTm.F ++ (cur.drop i).flatMap eTm.F := by rw [← List.flatMap_append, List.take_append_drop]
          have e3 : ((cur.take i).flatMap eTm.F).length = i * 2 := by
            rw [eTm.flat_len, List.length_take, Nat.min_eq_left (by omega)]
            rfl
          rw [e1, htk, e2, List.take_append_of_le_length (by omega), List.take_of_length_le (by omega)]) hp1 (by omega) hcm
        rw [hwl] at hraw
        exact hraw
set_option maxRecDepth 100000 in
theorem wout_c (A : Option Addr) (c : Nat) (l : List Tm) (id : Int) (H : Heap) (hA : Rd eTm H A l) (hl : l.length ≤ 1000000) :
    CallsH Try.prog 28 [.slice A l.length c, .int .i64 id] H fun v H' => Own eTm 58 H' H.size v (woutT l id) ∧ Ext H H' := by
  refine callsH_of Try.func28 rfl Try.ntmps28 (Nat.le_of_ble_eq_true rfl) ?_
  refine wpSeq fun F1 hF1 => ?_
  refine wpRegion ?_
  refine seqN rfl rfl (nBox (v := .int _ _) rfl rfl rfl) (fun g3 H3 hx3 hB3 hg3 hl3 => ?_)
  refine seqQ rfl rfl (yAssign (v := .slice _ _ _) rfl rfl) ?_
  refine seqNil ?_
  refine hF1 _ _ ?_; clear hF1
  refine wpSeq fun F2 hF2 => ?_
  refine wpRegion ?_
  refine seqQ rfl rfl (yMove (v := .slice _ _ _) rfl rfl) ?_
  -- e slot 6: call F25<slices.Clone[farandole/timer.Table,farandole/timer.Timer]> t5
  refine seqE rfl rfl (stepCall rfl Try.call25 rfl ?_)
  refine (tClone_c A c l H3 (hA.ext hx3) (by omega)).mono ?_
  rintro v H4 ⟨o4, x4⟩
  obtain ⟨A4, c4, rfl, -⟩ := o4.form
  refine seqQ rfl rfl (yMakeFunc (first := []) (captured := [.tmp 3]) (vs := []) (us := [.pointer (some ⟨g3, 0, none⟩)]) rfl rfl rfl) ?_
  -- e slot 8: call F36<slices.DeleteFunc[farandole/timer.Table,farandole/timer.Timer]> t6 t7
  refine seqE rfl rfl (stepCall rfl Try.call36 rfl ?_)
  refine (delF_c (asks_wout g3 id) _ l H3.size H4 o4 (hB3.ext x4) (fun e => by have := (o4.lt _ e).1; omega) hl).mono ?_
  rintro v H5 ⟨o5, k5⟩
  obtain ⟨A5, c5, rfl, -⟩ := o5.form
  refine seqQ rfl rfl (yAssign (v := .slice _ _ _) rfl rfl) ?_
  refine seqNil ?_
  refine hF2 _ _ ?_; clear hF2
  -- ret
  refine wpRet (fin1 (v := .slice _ _ _) rfl rfl ?_)
  exact ⟨o5.mono hx3.size, (hx3.trans x4).mine k5 (fun b hb => by rw [Option.mem_toList] at hb; have := (o4.lt _ hb).1; have := hx3.size; omega)⟩
set_option maxRecDepth 100000 in
theorem tFind_c (A : Option Addr) (c : Nat) (l : List Tm) (id : Int) (H : Heap) (hA : Rd eTm H A l) (hl : l.length ≤ 9223372036854775807) :
    CallsH Try.prog 23 [.slice A l.length c, .int .i64 id] H fun v H' => v = .tuple #[.int .i64 (findT l id).1, .bool (findT l id).2] ∧ Ext H H' := by
  refine callsH_of Try.func23 rfl Try.ntmps23 (Nat.le_of_ble_eq_true rfl) ?_
  refine wpSeq fun F1 hF1 => ?_
  refine wpRegion ?_
  refine seqN rfl rfl (nBox (v := .int _ _) rfl rfl rfl) (fun g3 H3 hx3 hB3 hg3 hl3 => ?_)
  refine seqQ rfl rfl (yAssign (v := .int _ _) rfl rfl) ?_
  refine seqQ rfl rfl (yAssign (v := .bool _) rfl rfl) ?_
  refine seqNil ?_
  refine hF1 _ _ ?_; clear hF1
  refine wpSeq fun F2 hF2 => ?_
  refine wpRegion ?_
  refine seqQ rfl rfl (yMove (v := .slice _ _ _) rfl rfl) ?_
  refine seqQ rfl rfl (yMakeFunc (first := []) (captured := [.tmp 3]) (vs := []) (us := [.pointer (some ⟨g3, 0, none⟩)]) rfl rfl rfl) ?_
  -- e slot 9: call F32<slices.IndexFunc[farandole/timer.Table,farandole/timer.Timer]> t7 t8
  refine seqE rfl rfl (stepCall rfl Try.call32 rfl ?_)
  refine (idxF_c (asks_find g3 id) A c l H3 (hA.ext hx3) hB3 hl).mono ?_
  rintro v H1 ⟨hv, x1⟩
  rcases hv with ⟨rfl, hno⟩ | ⟨k, hk, rfl, hkid, hno⟩
  · skip
    refine seqQ rfl rfl (yAssign (v := .int _ _) rfl rfl) ?_
    refine seqNil ?_
    refine hF2 _ _ ?_; clear hF2
    refine wpSeq fun F3 hF3 => ?_
    refine wpSeq fun F4 hF4 => ?_
    refine wpRegion ?_
    refine seqQ rfl rfl (yMove (v := .int _ _) rfl rfl) ?_
    refine seqQ rfl rfl (yLss rfl rfl rfl) ?_
    refine seqNil ?_
    refine hF4 _ _ ?_; clear hF4
    -- if t11
    refine wpT rfl ?_
    refine wpSeq fun F5 hF5 => ?_
    refine wpRegion ?_
    refine seqQ rfl rfl (yAssign (v := .int _ _) rfl rfl) ?_
    refine seqQ rfl rfl (yAssign (v := .bool _) rfl rfl) ?_
    refine seqNil ?_
    refine hF5 _ _ ?_; clear hF5
    -- ret
    refine wpRet (fin2 (v := .int _ _) (v' := .bool _) rfl rfl rfl ?_)
    exact ⟨by rw [findT_none hno], hx3.trans x1⟩
  · skip
    obtain ⟨p, ep, hp⟩ := ((hA.ext hx3).ext x1).at hk
    refine seqQ rfl rfl (yAssign (v := .int _ _) rfl rfl) ?_
    refine seqNil ?_
    refine hF2 _ _ ?_; clear hF2
    refine wpSeq fun F6 hF6 => ?_
    refine wpSeq fun F7 hF7 => ?_
    refine wpRegion ?_
    refine seqQ rfl rfl (yMove (v := .int _ _) rfl rfl) ?_
    refine seqQ rfl rfl (yLss rfl rfl rfl) ?_
    refine seqNil ?_
    refine hF7 _ _ ?_; clear hF7
    -- if t11
    refine wpIf rfl (fun hm => ?_) (fun hm => ?_)
    · skip
      omega
    · skip
      refine wpSkip ?_
      refine hF6 _ _ ?_; clear hF6
      refine wpSeq fun F8 hF8 => ?_
      refine wpRegion ?_
      refine seqQ rfl rfl (yMove (v := .slice _ _ _) rfl rfl) ?_
      refine seqQ rfl rfl (yMove (v := .int _ _) rfl rfl) ?_
      refine seqQ rfl rfl (yIdxP rfl Try.underlying26 Try.sizeOf58 rfl rfl ep rfl hk) ?_
      refine seqQ rfl rfl (yFieldAddr rfl Try.underlying58 rfl Try.sizeOf3 rfl rfl) ?_
      refine seqQ rfl rfl (yLoad rfl Try.underlying3 rfl rfl (hp 0 _ rfl)) ?_
      refine seqQ rfl rfl (yAssign (v := .int _ _) rfl rfl) ?_
      refine seqQ rfl rfl (yAssign (v := .bool _) rfl rfl) ?_
      refine seqNil ?_
      refine hF8 _ _ ?_; clear hF8
      -- ret
      refine wpRet (fin2 (v := .int _ _) (v' := .bool _) rfl rfl rfl ?_)
      exact ⟨by rw [findT_at hk hno hkid], hx3.trans x1⟩
set_option maxRecDepth 100000 in
theorem next_c (A : Option Addr) (c : Nat) (l : List Tm) (H : Heap) (hA : Rd eTm H A l) :
    CallsH Try.prog 17 [.slice A l.length c] H fun v H' => v = .tuple #[.int .i64 (gT l 0).1, .bool (decide (0 < l.length))] ∧ H' = H := by
  refine callsH_of Try.func17 rfl Try.ntmps17 (Nat.le_of_ble_eq_true rfl) ?_
  refine wpSeq fun F1 hF1 => ?_
  refine wpRegion ?_
  refine seqQ rfl rfl (yAssign (v := .int _ _) rfl rfl) ?_
  refine seqQ rfl rfl (yAssign (v := .bool _) rfl rfl) ?_
  refine seqNil ?_
  refine hF1 _ _ ?_; clear hF1
  refine wpSeq fun F2 hF2 => ?_
  refine wpSeq fun F3 hF3 => ?_
  refine wpRegion ?_
  refine seqQ rfl rfl (yMove (v := .slice _ _ _) rfl rfl) ?_
  refine seqQ rfl rfl (yLen rfl Try.underlying26 rfl) ?_
  refine seqQ rfl rfl (yEql rfl rfl rfl) ?_
  refine seqNil ?_
  refine hF3 _ _ ?_; clear hF3
  -- if t6
  refine wpIf rfl (fun h0 => ?_) (fun h0 => ?_)
  · skip
    refine wpSeq fun F4 hF4 => ?_
    refine wpRegion ?_
    refine seqQ rfl rfl (yAssign (v := .int _ _) rfl rfl) ?_
    refine seqQ rfl rfl (yAssign (v := .bool _) rfl rfl) ?_
    refine seqNil ?_
    refine hF4 _ _ ?_; clear hF4
    -- ret
    refine wpRet (fin2 (v := .int _ _) (v' := .bool _) rfl rfl rfl ?_)
    have hl : l = [] := List.eq_nil_of_length_eq_zero (by omega)
    subst hl
    exact ⟨rfl, rfl⟩
  · skip
    have h0 : 0 < l.length := by omega
    obtain ⟨p, ep, hp⟩ := hA.at h0
    refine wpSkip ?_
    refine hF2 _ _ ?_; clear hF2
    refine wpSeq fun F5 hF5 => ?_
    refine wpRegion ?_
    refine seqQ rfl rfl (yMove (v := .slice _ _ _) rfl rfl) ?_
    refine seqQ rfl rfl (yIdxP rfl Try.underlying26 Try.sizeOf58 rfl rfl ep rfl h0) ?_
    refine seqQ rfl rfl (yFieldAddr rfl Try.underlying58 rfl Try.sizeOf3 rfl rfl) ?_
    refine seqQ rfl rfl (yLoad rfl Try.underlying3 rfl rfl (hp 0 _ rfl)) ?_
    refine seqQ rfl rfl (yAssign (v := .int _ _) rfl rfl) ?_
    refine seqQ rfl rfl (yAssign (v := .bool _) rfl rfl) ?_
    refine seqNil ?_
    refine hF5 _ _ ?_; clear hF5
    -- ret
    refine wpRet (fin2 (v := .int _ _) (v' := .bool _) rfl rfl rfl ?_)
    exact ⟨by rw [decide_eq_true h0, gT_at h0], rfl⟩
end Go.Proofs.Ytbicgjleomkhdaa
