/- Zones: Sub, Join (both). -/
import Derived.Test.YtjkbkmbblidipaaZ10
namespace Go.Proofs.Ytjkbkmbblidipaa
open Go.RowKit

/- Lists in work: the first k are new. -/
set_option maxRecDepth 100000 in
theorem td_set {l l' : List Int} {k : Nat} {v : Int} (h : l.length = l'.length) (hk : k < l.length) (hv : v = l[k]) : (l.take k ++ l'.drop k).set k v = l.take (k + 1) ++ l'.drop (k + 1) := by
  subst hv
  rw [List.set_append_right _ _ (by rw [List.length_take]; omega), List.length_take, Nat.min_eq_left (by omega), Nat.sub_self, List.drop_eq_getElem_cons (by omega), List.set_cons_zero, List.take_succ_eq_append_getElem hk, List.append_assoc]
  rfl
set_option maxRecDepth 100000 in
theorem td_same {l l' : List Int} {k : Nat} (h : l.length = l'.length) (hk : k < l.length) (hv : l[k] = l'[k]) : l.take k ++ l'.drop k = l.take (k + 1) ++ l'.drop (k + 1) := by
  rw [List.drop_eq_getElem_cons (by omega), List.take_succ_eq_append_getElem hk, hv, List.append_assoc]
  rfl
set_option maxRecDepth 100000 in
theorem td_get {l l' : List Int} {k : Nat} (h : l.length = l'.length) (hk : k < l.length) (hk' : k < (l.take k ++ l'.drop k).length) : (l.take k ++ l'.drop k)[k] = l'[k] := by
  rw [List.getElem_append_right (by rw [List.length_take]; omega)]
  simp [Nat.min_eq_left (Nat.le_of_lt hk)]
set_option maxRecDepth 100000 in
theorem td_len {l l' : List Int} {k : Nat} (h : l.length = l'.length) (hk : k ≤ l.length) : (l.take k ++ l'.drop k).length = l.length := by
  rw [List.length_append, List.length_take, List.length_drop]
  omega
set_option maxRecDepth 100000 in
theorem flat_leq {n : Nat} {L L' : List Int} (hl : L.length = n * n) (hl' : L'.length = n * n) : (∀ p (h : p < L.length) (h' : p < L'.length), L[p] ≤ L'[p]) ↔ Leq n (mt n L) (mt n L') := by
  constructor
  · intro h a b ha hb
    have hlt := idx_lt ha hb
    unfold mt
    rw [List.getD_eq_getElem?_getD, List.getD_eq_getElem?_getD, List.getElem?_eq_getElem (by omega), List.getElem?_eq_getElem (by omega)]
    exact h _ _ _
  · intro h p hp hp'
    have hn : 0 < n := by
      rcases Nat.eq_zero_or_pos n with h0 | h0
      · subst h0; omega
      · exact h0
    have ha : p / n < n := by rw [Nat.div_lt_iff_lt_mul hn]; omega
    have := h (p / n) (p % n) ha (Nat.mod_lt _ hn)
    unfold mt at this
    rw [Nat.div_add_mod'] at this
    simpa [List.getD_eq_getElem?_getD, hp, hp'] using this
instance (n : Nat) (M M' : Mat) : Decidable (Leq n M M') := decidable_of_iff (∀ a, a < n → ∀ b, b < n → M a b ≤ M' a b) ⟨fun h a b ha hb => h a ha b hb, fun h a ha b hb => h a b ha hb⟩
def Both (a b : Zn) : Prop := ValZ a ∧ ValZ b ∧ a.N = b.N
instance (a b : Zn) : Decidable (Both a b) := by unfold Both; infer_instance
set_option maxRecDepth 100000 in
theorem Both.dm {a b : Zn} (h : Both a b) : dm a = dm b := by unfold Proofs.Ytjkbkmbblidipaa.dm; rw [h.2.2]
def subZ (a b : Zn) : Bool := if Both a b then (if (closeZ a).2 = true then decide (Leq (dm a) (mt (dm a) (closeZ a).1.b) (mt (dm a) b.b)) else true) else false
set_option maxRecDepth 100000 in
theorem subZ_no {a b : Zn} (h : ¬ Both a b) : subZ a b = false := if_neg h
set_option maxRecDepth 100000 in
theorem subZ_empty {a b : Zn} (h : Both a b) (e : closeZ a = (zn0, false)) : subZ a b = true := by unfold subZ; rw [if_pos h, e]; rfl
set_option maxRecDepth 100000 in
theorem subZ_yes {a b : Zn} {L : List Int} (h : Both a b) (e : closeZ a = (⟨a.N, L⟩, true)) : subZ a b = decide (Leq (dm a) (mt (dm a) L) (mt (dm a) b.b)) := by unfold subZ; rw [if_pos h, e, if_pos rfl]
def joinZ (a b : Zn) : Zn × Int := if Both a b then
    (if (closeZ a).2 = true then (if (closeZ b).2 = true then (⟨a.N, List.zipWith max (closeZ a).1.b (closeZ b).1.b⟩, 0) else ((closeZ a).1, 0)) else (if (closeZ b).2 = true then ((closeZ b).1, 0) else (nothZ a.N, 0)))
  else (zn0, 1)

set_option maxRecDepth 100000 in
theorem sub_c (a b : Zn) (A B : Option Addr) (ca cb : Nat) (H : Heap) (hA : Rd eInt H A a.b) (hB : Rd eInt H B b.b) (h8 : a.N ≤ 8) :
    CallsH Try.prog 34 [.agg (znC a A ca).toArray, .agg (znC b B cb).toArray] H fun v H' => v = .bool (subZ a b) ∧ Ext H H' := by
  refine callsH_of Try.func34 rfl Try.ntmps34 (Nat.le_of_ble_eq_true rfl) ?_
  refine wpSeq fun F1 hF1 => ?_
  refine wpRegion ?_
  refine seqN rfl rfl (nBoxA rfl rfl) (fun g2 H2 hx2 hB2 hg2 hl2 => ?_)
  refine seqN rfl rfl (nBoxA rfl rfl) (fun g3 H3 hx3 hB3 hg3 hl3 => ?_)
  refine seqQ rfl rfl (yAssign (v := .bool _) rfl rfl) ?_
  refine seqNil ?_
  refine hF1 _ _ ?_; clear hF1
  refine wpSeq fun F2 hF2 => ?_
  refine wpSeq fun F3 hF3 => ?_
  refine wpRegion ?_
  refine seqQ rfl rfl (yLoadB (hB2.ext hx3) rfl Try.underlying27 rfl Try.sizeOf27 rfl) ?_
  -- e slot 10: call F27<farandole/zone.Valid> t9
  refine seqE rfl rfl (stepCall rfl Try.call27 rfl ?_)
  refine (zvalid_c a A ca _ ((hA.ext hx2).ext hx3)).mono ?_
  rintro v H4 ⟨rfl, hx4⟩
  have hE := (hx2.trans hx3).trans hx4
  replace hB2 := (hB2.ext hx3).ext hx4
  replace hB3 := hB3.ext hx4
  clear hx2 hx3 hx4
  refine seqQ rfl rfl (yNot rfl rfl) ?_
  -- guard t12
  refine seqGB rfl rfl rfl rfl (fun hv => ?_) (fun hv => ?_)
  · skip
    have hv : ¬ ValZ a := by simpa using hv
    refine seqU rfl rfl ?_
    refine seqU rfl rfl ?_
    refine seqU rfl rfl ?_
    refine seqQ rfl rfl (yPickT (v := .bool _) rfl rfl rfl) ?_
    refine seqQ rfl rfl (yMove (v := .bool true) rfl rfl) ?_
    refine seqU rfl rfl ?_
    refine seqU rfl rfl ?_
    refine seqU rfl rfl ?_
    refine seqU rfl rfl ?_
    refine seqU rfl rfl ?_
    refine seqQ rfl rfl (yPickT (v := .bool _) rfl rfl rfl) ?_
    refine seqNil ?_
    refine hF3 _ _ ?_; clear hF3
    -- if t23
    refine wpT rfl ?_
    refine wpSeq fun F4 hF4 => ?_
    refine wpRegion ?_
    refine seqQ rfl rfl (yAssign (v := .bool _) rfl rfl) ?_
    refine seqNil ?_
    refine hF4 _ _ ?_; clear hF4
    -- ret
    refine wpRet (fin1 (v := .bool _) rfl rfl ?_)
    exact ⟨by rw [subZ_no (fun h => hv h.1)], hE⟩
  · skip
    have hv : ValZ a := by simpa using hv
    refine seqQ rfl rfl (yLoadB hB3 rfl Try.underlying27 rfl Try.sizeOf27 rfl) ?_
    -- e slot 14: call F27<farandole/zone.Valid> t13
    refine seqE rfl rfl (stepCall rfl Try.call27 rfl ?_)
    refine (zvalid_c b B cb _ (hB.ext hE)).mono ?_
    rintro v H5 ⟨rfl, hx5⟩
    replace hE := hE.trans hx5
    replace hB2 := hB2.ext hx5
    replace hB3 := hB3.ext hx5
    clear hx5
    refine seqQ rfl rfl (yNot rfl rfl) ?_
    refine seqQ rfl rfl (yPickF (v := .bool _) rfl rfl rfl) ?_
    -- guard t17
    refine seqGB rfl rfl rfl rfl (fun hw => ?_) (fun hw => ?_)
    · skip
      have hw : ¬ ValZ b := by simpa using hw
      refine seqU rfl rfl ?_
      refine seqU rfl rfl ?_
      refine seqU rfl rfl ?_
      refine seqU rfl rfl ?_
      refine seqU rfl rfl ?_
      refine seqQ rfl rfl (yPickT (v := .bool _) rfl rfl rfl) ?_
      refine seqNil ?_
      refine hF3 _ _ ?_; clear hF3
      -- if t23
      refine wpT rfl ?_
      refine wpSeq fun F5 hF5 => ?_
      refine wpRegion ?_
      refine seqQ rfl rfl (yAssign (v := .bool _) rfl rfl) ?_
      refine seqNil ?_
      refine hF5 _ _ ?_; clear hF5
      -- ret
      refine wpRet (fin1 (v := .bool _) rfl rfl ?_)
      exact ⟨by rw [subZ_no (fun h => hw h.2.1)], hE⟩
    · skip
      have hw : ValZ b := by simpa using hw
      refine seqQ rfl rfl (yFieldAddr rfl Try.underlying27 rfl Try.sizeOf3 rfl rfl) ?_
      refine seqQ rfl rfl (yLoad rfl Try.underlying3 rfl rfl (hB2.cell rfl)) ?_
      refine seqQ rfl rfl (yFieldAddr rfl Try.underlying27 rfl Try.sizeOf3 rfl rfl) ?_
      refine seqQ rfl rfl (yLoad rfl Try.underlying3 rfl rfl (hB3.cell rfl)) ?_
      refine seqQ rfl rfl (yNeq rfl rfl rfl) ?_
      refine seqQ rfl rfl (yPickF (v := .bool _) rfl rfl rfl) ?_
      refine seqNil ?_
      refine hF3 _ _ ?_; clear hF3
      -- if t23
      refine wpCond rfl (fun hn => ?_) (fun hn => ?_)
      · skip
        have hn : ¬ a.N = b.N := by simpa using hn
        refine wpSeq fun F6 hF6 => ?_
        refine wpRegion ?_
        refine seqQ rfl rfl (yAssign (v := .bool _) rfl rfl) ?_
        refine seqNil ?_
        refine hF6 _ _ ?_; clear hF6
        -- ret
        refine wpRet (fin1 (v := .bool _) rfl rfl ?_)
        exact ⟨by rw [subZ_no (fun h => hn h.2.2)], hE⟩
      · skip
        have hn : a.N = b.N := by simpa using hn
        have hb : Both a b := ⟨hv, hw, hn⟩
        have hda := hv.dim
        have hdb := hw.dim
        rw [← hb.dm] at hdb
        refine wpSkip ?_
        refine hF2 _ _ ?_; clear hF2
        refine wpSeq fun F7 hF7 => ?_
        refine wpRegion ?_
        refine seqQ rfl rfl (yLoadB hB2 rfl Try.underlying27 rfl Try.sizeOf27 rfl) ?_
        -- e slot 26: call F14<farandole/zone.Close> t25
        refine seqE rfl rfl (stepCall rfl Try.call14 rfl ?_)
        have hc := close_c a A ca _ (hA.ext hE) h8
        rcases closeZ_cases a with ⟨e, _⟩ | ⟨L, e, -, hL⟩
        · skip
          rw [e] at hc
          refine hc.mono ?_
          rintro v H6 ⟨hx6, u, rfl, A', ca', rfl, ho⟩
          refine seqQ rfl rfl (yMove (v := .tuple _) rfl rfl) ?_
          refine seqQ rfl rfl (yExtract (v := .agg _) rfl rfl rfl) ?_
          refine seqQ rfl rfl (yExtract (v := .bool _) rfl rfl rfl) ?_
          refine seqN rfl rfl (nAlloc rfl Try.zeroValue27 rfl) (fun g5 H5 hx5 hB5 hg5 hl5 => ?_)
          -- e slot None: store T27 t5 t27
          refine seqE0 rfl rfl (stepStoreB rfl (by kernel_rfl) rfl rfl rfl hB5 rfl ?_)
          intro H7 hB7 hK7
          refine seqQ rfl rfl (yAssign (v := .bool _) rfl rfl) ?_
          refine seqNil ?_
          refine hF7 _ _ ?_; clear hF7
          refine wpSeq fun F8 hF8 => ?_
          refine wpSeq fun F9 hF9 => ?_
          refine wpRegion ?_
          refine seqQ rfl rfl (yMove (v := .bool _) rfl rfl) ?_
          refine seqQ rfl rfl (yNot rfl rfl) ?_
          refine seqNil ?_
          refine hF9 _ _ ?_; clear hF9
          -- if t30
          refine wpT rfl ?_
          refine wpSeq fun F10 hF10 => ?_
          refine wpRegion ?_
          refine seqQ rfl rfl (yAssign (v := .bool _) rfl rfl) ?_
          refine seqNil ?_
          refine hF10 _ _ ?_; clear hF10
          -- ret
          refine wpRet (fin1 (v := .bool _) rfl rfl ?_)
          exact ⟨by rw [subZ_empty hb e], hE.trans (afterStore hx6 hx5 hg5 hK7)⟩
        · skip
          rw [e] at hc
          refine hc.mono ?_
          rintro v H6 ⟨hx6, u, rfl, A', ca', rfl, ho⟩
          have r6 := (Own.rd ho).2
          refine seqQ rfl rfl (yMove (v := .tuple _) rfl rfl) ?_
          refine seqQ rfl rfl (yExtract (v := .agg _) rfl rfl rfl) ?_
          refine seqQ rfl rfl (yExtract (v := .bool _) rfl rfl rfl) ?_
          refine seqN rfl rfl (nAlloc rfl Try.zeroValue27 rfl) (fun g5 H5 hx5 hB5 hg5 hl5 => ?_)
          -- e slot None: store T27 t5 t27
          refine seqE0 rfl rfl (stepStoreB rfl (by kernel_rfl) rfl rfl rfl hB5 rfl ?_)
          intro H7 hB7 hK7
          have x7 := afterStore hx6 hx5 hg5 hK7
          have rd7 := rdStore r6 hx5 hg5 hK7
          replace hE := hE.trans x7
          replace hB3 := hB3.ext x7
          clear hx6 hx5 hK7 x7 ho r6 hc hB5
          have hll := hL.len
          have hl625 : L.length ≤ 625 := by rw [hll]; exact mul25 hda.2.2.1 hda.2.2.1
          have rB := hB.ext hE
          refine seqQ rfl rfl (yAssign (v := .bool _) rfl rfl) ?_
          refine seqNil ?_
          refine hF7 _ _ ?_; clear hF7
          refine wpSeq fun F11 hF11 => ?_
          refine wpSeq fun F12 hF12 => ?_
          refine wpRegion ?_
          refine seqQ rfl rfl (yMove (v := .bool _) rfl rfl) ?_
          refine seqQ rfl rfl (yNot rfl rfl) ?_
          refine seqNil ?_
          refine hF12 _ _ ?_; clear hF12
          -- if t30
          refine wpF rfl ?_
          refine wpSkip ?_
          refine hF11 _ _ ?_; clear hF11
          refine wpSeq fun F13 hF13 => ?_
          refine wpSeq fun F14 hF14 => ?_
          refine wpRegion ?_
          refine seqQ rfl rfl (yFieldAddr rfl Try.underlying27 rfl Try.sizeOf22 rfl rfl) ?_
          refine seqQ rfl rfl (yLoad rfl Try.underlying22 rfl rfl (hB7.cell rfl)) ?_
          refine seqQ rfl rfl (yLen rfl Try.underlying22 rfl) ?_
          refine seqQ rfl rfl (yMove (v := .int _ _) rfl rfl) ?_
          refine seqNil ?_
          refine hF14 _ _ ?_; clear hF14
          -- loop
          refine wpBlock ?_
          refine wpLoopS [4, 7, 8, 34, 35, 36, 37, 38, 39, 40, 41, 42, 43, 44, 45, 46] (fun k : Nat => [(34, .int .i64 k)]) (fun k H' => k ≤ L.length ∧ H' = H7 ∧ ∀ p (h : p < L.length) (h' : p < b.b.length), p < k → L[p] ≤ b.b[p]) (fun k => L.length - k) 0 ⟨rfl, trivial⟩ ⟨Nat.zero_le _, rfl, fun p _ _ h => absurd h (by omega)⟩ ?_
          rintro k J _ ⟨hk, e7, hall⟩
          obtain rfl := e7.symm
          clear e7
          refine wpSeq fun F15 hF15 => ?_
          refine wpRegion ?_
          refine seqQ rfl rfl (yLss rfl rfl rfl) ?_
          refine seqNil ?_
          refine hF15 _ _ ?_; clear hF15
          refine wpSeq fun F16 hF16 => ?_
          -- if t35
          refine wpIf rfl (fun hlt => ?_) (fun hlt => ?_)
          · skip
            have hk : k < L.length := by dsimp only at hlt; omega
            have hkb : k < b.b.length := by omega
            obtain ⟨p, ep, hp⟩ := rd7.at1 hk
            obtain ⟨q, eq, hq⟩ := rB.at1 hkb
            subst ep eq
            refine wpSkip ?_
            refine hF16 _ _ ?_; clear hF16
            refine wpSeq fun F17 hF17 => ?_
            refine wpBlock ?_
            refine wpSeq fun F18 hF18 => ?_
            refine wpRegion ?_
            refine seqQ rfl rfl (yMove (v := .int _ _) rfl rfl) ?_
            refine seqQ rfl rfl (yIdx1 rfl Try.underlying22 Try.sizeOf3 rfl rfl rfl hk) ?_
            refine seqQ rfl rfl (yLoad rfl Try.underlying3 rfl rfl hp) ?_
            refine seqQ rfl rfl (yAssign (v := .int _ _) rfl rfl) ?_
            refine seqQ rfl rfl (yAssign (v := .int _ _) rfl rfl) ?_
            refine seqNil ?_
            refine hF18 _ _ ?_; clear hF18
            refine wpSeq fun F19 hF19 => ?_
            refine wpRegion ?_
            refine seqQ rfl rfl (yMove (v := .int _ _) rfl rfl) ?_
            refine seqQ rfl rfl (yFieldAddr rfl Try.underlying27 rfl Try.sizeOf22 rfl rfl) ?_
            refine seqQ rfl rfl (yLoad rfl Try.underlying22 rfl rfl (hB3.cell rfl)) ?_
            refine seqQ rfl rfl (yMove (v := .int _ _) rfl rfl) ?_
            refine seqQ rfl rfl (yIdx1 rfl Try.underlying22 Try.sizeOf3 rfl rfl rfl hkb) ?_
            refine seqQ rfl rfl (yLoad rfl Try.underlying3 rfl rfl hq) ?_
            refine seqQ rfl rfl (yGtr rfl rfl rfl) ?_
            refine seqNil ?_
            refine hF19 _ _ ?_; clear hF19
            -- if t45
            refine wpIf rfl (fun hbad => ?_) (fun hbad => ?_)
            · skip
              have hbad : b.b[k] < L[k] := hbad
              refine wpSeq fun F20 hF20 => ?_
              refine wpRegion ?_
              refine seqQ rfl rfl (yAssign (v := .bool _) rfl rfl) ?_
              refine seqNil ?_
              refine hF20 _ _ ?_; clear hF20
              -- ret
              refine wpRet (fin1 (v := .bool _) rfl rfl ?_)
              exact ⟨by rw [subZ_yes hb e, decide_eq_false (fun h => by have := (flat_leq hll (by omega)).2 h k hk hkb; omega)], hE⟩
            · skip
              have hbad : ¬ b.b[k] < L[k] := hbad
              refine wpSkip ?_
              refine hF17 _ _ ?_; clear hF17
              refine wpRegion ?_
              refine seqQ rfl rfl (yAdd rfl rfl rfl (by unfold In64; omega)) ?_
              refine seqQ rfl rfl (yMove (v := .int _ _) rfl rfl) ?_
              refine seqNil ?_
              -- end loop
              exact loopEnd (k + 1) (by repeat (first | (with_reducible exact Agree.refl _ _) | refine Agree.upd ?_ rfl | refine Agree.over ?_ rfl)) (by omega) ⟨rfl, trivial⟩ ⟨hk, rfl, fun p h h' hp => by
                rcases Nat.lt_or_ge p k with h1 | h1
                · exact hall p h h' h1
                · obtain rfl : p = k := by omega
                  omega⟩
          · skip
            refine wpExit ?_
            refine hF13 _ _ ?_; clear hF13
            refine wpSeq fun F21 hF21 => ?_
            refine wpRegion ?_
            refine seqQ rfl rfl (yAssign (v := .bool _) rfl rfl) ?_
            refine seqNil ?_
            refine hF21 _ _ ?_; clear hF21
            -- ret
            refine wpRet (fin1 (v := .bool _) rfl rfl ?_)
            dsimp only at hlt
            exact ⟨by rw [subZ_yes hb e, decide_eq_true ((flat_leq hll (by omega)).1 (fun p h h' => hall p h h' (by omega)))], hE⟩
set_option maxRecDepth 100000 in
theorem rSub_c (a b : Zn) (A B : Option Addr) (ca cb : Nat) (H : Heap) (hA : Rd eInt H A a.b) (hB : Rd eInt H B b.b) (h8 : a.N ≤ 8) :
    CallsH Try.prog 40 [.agg (znC a A ca).toArray, .agg (znC b B cb).toArray] H fun v H' => v = .bool (subZ a b) ∧ Ext H H' := by
  refine callsH_of Try.func40 rfl Try.ntmps40 (Nat.le_of_ble_eq_true rfl) ?_
  refine wpSeq fun F1 hF1 => ?_
  refine wpRegion ?_
  refine seqN rfl rfl (nBoxA rfl rfl) (fun g2 H2 hx2 hB2 hg2 hl2 => ?_)
  refine seqN rfl rfl (nBoxA rfl rfl) (fun g3 H3 hx3 hB3 hg3 hl3 => ?_)
  refine seqQ rfl rfl (yAssign (v := .bool _) rfl rfl) ?_
  refine seqNil ?_
  refine hF1 _ _ ?_; clear hF1
  refine wpSeq fun F2 hF2 => ?_
  refine wpSeq fun F3 hF3 => ?_
  refine wpRegion ?_
  refine seqQ rfl rfl (yLoadB (hB2.ext hx3) rfl Try.underlying24 rfl Try.sizeOf24 rfl) ?_
  -- e slot 9: call F28<farandole/farandoleref13.Valid> t8
  refine seqE rfl rfl (stepCall rfl Try.call28 rfl ?_)
  refine (rvalid_c a A ca _ ((hA.ext hx2).ext hx3)).mono ?_
  rintro v H4 ⟨rfl, hx4⟩
  have hE := (hx2.trans hx3).trans hx4
  replace hB2 := (hB2.ext hx3).ext hx4
  replace hB3 := hB3.ext hx4
  clear hx2 hx3 hx4
  refine seqQ rfl rfl (yNot rfl rfl) ?_
  -- guard t11
  refine seqGB rfl rfl rfl rfl (fun hv => ?_) (fun hv => ?_)
  · skip
    have hv : ¬ ValZ a := by simpa using hv
    refine seqU rfl rfl ?_
    refine seqU rfl rfl ?_
    refine seqU rfl rfl ?_
    refine seqQ rfl rfl (yPickT (v := .bool _) rfl rfl rfl) ?_
    refine seqQ rfl rfl (yMove (v := .bool true) rfl rfl) ?_
    refine seqU rfl rfl ?_
    refine seqU rfl rfl ?_
    refine seqU rfl rfl ?_
    refine seqU rfl rfl ?_
    refine seqU rfl rfl ?_
    refine seqQ rfl rfl (yPickT (v := .bool _) rfl rfl rfl) ?_
    refine seqNil ?_
    refine hF3 _ _ ?_; clear hF3
    -- if t22
    refine wpT rfl ?_
    refine wpSeq fun F4 hF4 => ?_
    refine wpRegion ?_
    refine seqQ rfl rfl (yAssign (v := .bool _) rfl rfl) ?_
    refine seqNil ?_
    refine hF4 _ _ ?_; clear hF4
    -- ret
    refine wpRet (fin1 (v := .bool _) rfl rfl ?_)
    exact ⟨by rw [subZ_no (fun h => hv h.1)], hE⟩
  · skip
    have hv : ValZ a := by simpa using hv
    refine seqQ rfl rfl (yLoadB hB3 rfl Try.underlying24 rfl Try.sizeOf24 rfl) ?_
    -- e slot 13: call F28<farandole/farandoleref13.Valid> t12
    refine seqE rfl rfl (stepCall rfl Try.call28 rfl ?_)
    refine (rvalid_c b B cb _ (hB.ext hE)).mono ?_
    rintro v H5 ⟨rfl, hx5⟩
    replace hE := hE.trans hx5
    replace hB2 := hB2.ext hx5
    replace hB3 := hB3.ext hx5
    clear hx5
    refine seqQ rfl rfl (yNot rfl rfl) ?_
    refine seqQ rfl rfl (yPickF (v := .bool _) rfl rfl rfl) ?_
    -- guard t16
    refine seqGB rfl rfl rfl rfl (fun hw => ?_) (fun hw => ?_)
    · skip
      have hw : ¬ ValZ b := by simpa using hw
      refine seqU rfl rfl ?_
      refine seqU rfl rfl ?_
      refine seqU rfl rfl ?_
      refine seqU rfl rfl ?_
      refine seqU rfl rfl ?_
      refine seqQ rfl rfl (yPickT (v := .bool _) rfl rfl rfl) ?_
      refine seqNil ?_
      refine hF3 _ _ ?_; clear hF3
      -- if t22
      refine wpT rfl ?_
      refine wpSeq fun F5 hF5 => ?_
      refine wpRegion ?_
      refine seqQ rfl rfl (yAssign (v := .bool _) rfl rfl) ?_
      refine seqNil ?_
      refine hF5 _ _ ?_; clear hF5
      -- ret
      refine wpRet (fin1 (v := .bool _) rfl rfl ?_)
      exact ⟨by rw [subZ_no (fun h => hw h.2.1)], hE⟩
    · skip
      have hw : ValZ b := by simpa using hw
      refine seqQ rfl rfl (yFieldAddr rfl Try.underlying24 rfl Try.sizeOf3 rfl rfl) ?_
      refine seqQ rfl rfl (yLoad rfl Try.underlying3 rfl rfl (hB2.cell rfl)) ?_
      refine seqQ rfl rfl (yFieldAddr rfl Try.underlying24 rfl Try.sizeOf3 rfl rfl) ?_
      refine seqQ rfl rfl (yLoad rfl Try.underlying3 rfl rfl (hB3.cell rfl)) ?_
      refine seqQ rfl rfl (yNeq rfl rfl rfl) ?_
      refine seqQ rfl rfl (yPickF (v := .bool _) rfl rfl rfl) ?_
      refine seqNil ?_
      refine hF3 _ _ ?_; clear hF3
      -- if t22
      refine wpCond rfl (fun hn => ?_) (fun hn => ?_)
      · skip
        have hn : ¬ a.N = b.N := by simpa using hn
        refine wpSeq fun F6 hF6 => ?_
        refine wpRegion ?_
        refine seqQ rfl rfl (yAssign (v := .bool _) rfl rfl) ?_
        refine seqNil ?_
        refine hF6 _ _ ?_; clear hF6
        -- ret
        refine wpRet (fin1 (v := .bool _) rfl rfl ?_)
        exact ⟨by rw [subZ_no (fun h => hn h.2.2)], hE⟩
      · skip
        have hn : a.N = b.N := by simpa using hn
        have hb : Both a b := ⟨hv, hw, hn⟩
        have hda := hv.dim
        have hdb := hw.dim
        rw [← hb.dm] at hdb
        refine wpSkip ?_
        refine hF2 _ _ ?_; clear hF2
        refine wpSeq fun F7 hF7 => ?_
        refine wpRegion ?_
        refine seqQ rfl rfl (yLoadB hB2 rfl Try.underlying24 rfl Try.sizeOf24 rfl) ?_
        -- e slot 25: call F16<farandole/farandoleref13.Close> t24
        refine seqE rfl rfl (stepCall rfl Try.call16 rfl ?_)
        have hc := rClose_c a A ca _ (hA.ext hE) h8
        rcases closeZ_cases a with ⟨e, _⟩ | ⟨L, e, -, hL⟩
        · skip
          rw [e] at hc
          refine hc.mono ?_
          rintro v H6 ⟨hx6, u, rfl, A', ca', rfl, ho⟩
          refine seqQ rfl rfl (yMove (v := .tuple _) rfl rfl) ?_
          refine seqQ rfl rfl (yExtract (v := .agg _) rfl rfl rfl) ?_
          refine seqQ rfl rfl (yExtract (v := .bool _) rfl rfl rfl) ?_
          refine seqN rfl rfl (nAlloc rfl Try.zeroValue24 rfl) (fun g5 H5 hx5 hB5 hg5 hl5 => ?_)
          -- e slot None: store T24 t5 t26
          refine seqE0 rfl rfl (stepStoreB rfl (by kernel_rfl) rfl rfl rfl hB5 rfl ?_)
          intro H7 hB7 hK7
          have hE7 := hE.trans (afterStore hx6 hx5 hg5 hK7)
          refine seqQ rfl rfl (yAssign (v := .bool _) rfl rfl) ?_
          refine seqNil ?_
          refine hF7 _ _ ?_; clear hF7
          refine wpSeq fun F8 hF8 => ?_
          refine wpSeq fun F9 hF9 => ?_
          refine wpRegion ?_
          refine seqQ rfl rfl (yAssign (v := .int _ _) rfl rfl) ?_
          refine seqNil ?_
          refine hF9 _ _ ?_; clear hF9
          -- loop
          refine wpBlock ?_
          refine wpLoopS [4, 7, 28, 29, 30, 31, 32, 33, 34, 35, 36, 37, 38, 39, 40, 41, 42, 43, 44, 45, 46, 47, 48] (fun k : Nat => [(7, .int .i64 k)]) (fun k H' => k = 0 ∧ H' = H7) (fun k => 0 - k) 0 ⟨rfl, trivial⟩ ⟨rfl, rfl⟩ ?_
          rintro k J _ ⟨hk, e7⟩
          obtain rfl := e7.symm
          clear e7
          subst hk
          refine wpSeq fun F10 hF10 => ?_
          refine wpSeq fun F11 hF11 => ?_
          refine wpRegion ?_
          refine seqQ rfl rfl (yMove (v := .int _ _) rfl rfl) ?_
          refine seqQ rfl rfl (yFieldAddr rfl Try.underlying24 rfl Try.sizeOf22 rfl rfl) ?_
          refine seqQ rfl rfl (yLoad rfl Try.underlying22 rfl rfl (hB7.cell rfl)) ?_
          refine seqQ rfl rfl (yLen rfl Try.underlying22 rfl) ?_
          refine seqQ rfl rfl (yLss rfl rfl rfl) ?_
          refine seqQ rfl rfl (yMove (v := .bool false) rfl rfl) ?_
          refine seqU rfl rfl ?_
          refine seqQ rfl rfl (yPickF (v := .bool _) rfl rfl rfl) ?_
          refine seqNil ?_
          refine hF11 _ _ ?_; clear hF11
          -- if t35
          refine wpF rfl ?_
          refine wpExit ?_
          refine hF8 _ _ ?_; clear hF8
          refine wpSeq fun F12 hF12 => ?_
          refine wpRegion ?_
          refine seqQ rfl rfl (yAssign (v := .bool _) rfl rfl) ?_
          refine seqNil ?_
          refine hF12 _ _ ?_; clear hF12
          -- ret
          refine wpRet (fin1 (v := .bool _) rfl rfl ?_)
          exact ⟨by rw [subZ_empty hb e], hE7⟩
        · skip
          rw [e] at hc
          refine hc.mono ?_
          rintro v H6 ⟨hx6, u, rfl, A', ca', rfl, ho⟩
          have r6 := (Own.rd ho).2
          refine seqQ rfl rfl (yMove (v := .tuple _) rfl rfl) ?_
          refine seqQ rfl rfl (yExtract (v := .agg _) rfl rfl rfl) ?_
          refine seqQ rfl rfl (yExtract (v := .bool _) rfl rfl rfl) ?_
          refine seqN rfl rfl (nAlloc rfl Try.zeroValue24 rfl) (fun g5 H5 hx5 hB5 hg5 hl5 => ?_)
          -- e slot None: store T24 t5 t26
          refine seqE0 rfl rfl (stepStoreB rfl (by kernel_rfl) rfl rfl rfl hB5 rfl ?_)
          intro H7 hB7 hK7
          have x7 := afterStore hx6 hx5 hg5 hK7
          have rd7 := rdStore r6 hx5 hg5 hK7
          replace hE := hE.trans x7
          replace hB3 := hB3.ext x7
          clear hx6 hx5 hK7 x7 ho r6 hc hB5
          have hll := hL.len
          have hl625 : L.length ≤ 625 := by rw [hll]; exact mul25 hda.2.2.1 hda.2.2.1
          have rB := hB.ext hE
          refine seqQ rfl rfl (yAssign (v := .bool _) rfl rfl) ?_
          refine seqNil ?_
          refine hF7 _ _ ?_; clear hF7
          refine wpSeq fun F13 hF13 => ?_
          refine wpSeq fun F14 hF14 => ?_
          refine wpRegion ?_
          refine seqQ rfl rfl (yAssign (v := .int _ _) rfl rfl) ?_
          refine seqNil ?_
          refine hF14 _ _ ?_; clear hF14
          -- loop
          refine wpBlock ?_
          refine wpLoopS [4, 7, 28, 29, 30, 31, 32, 33, 34, 35, 36, 37, 38, 39, 40, 41, 42, 43, 44, 45, 46, 47, 48] (fun k : Nat => [(7, .int .i64 k)]) (fun k H' => k ≤ L.length ∧ H' = H7 ∧ ∀ p (h : p < L.length) (h' : p < b.b.length), p < k → L[p] ≤ b.b[p]) (fun k => L.length - k) 0 ⟨rfl, trivial⟩ ⟨Nat.zero_le _, rfl, fun p _ _ h => absurd h (by omega)⟩ ?_
          rintro k J _ ⟨hk, e7, hall⟩
          obtain rfl := e7.symm
          clear e7
          refine wpSeq fun F15 hF15 => ?_
          refine wpSeq fun F16 hF16 => ?_
          refine wpRegion ?_
          refine seqQ rfl rfl (yMove (v := .int _ _) rfl rfl) ?_
          refine seqQ rfl rfl (yFieldAddr rfl Try.underlying24 rfl Try.sizeOf22 rfl rfl) ?_
          refine seqQ rfl rfl (yLoad rfl Try.underlying22 rfl rfl (hB7.cell rfl)) ?_
          refine seqQ rfl rfl (yLen rfl Try.underlying22 rfl) ?_
          refine seqQ rfl rfl (yLss rfl rfl rfl) ?_
          -- guard t33
          refine seqMeet 8 [33, 34, 35] 35 (decide (k < L.length)) (fun hm17 => ?_) (fun J17 => ?_)
          · skip
            first | refine seqG rfl rfl rfl rfl (fun h33 => ?_) (fun h33 => ?_) | refine seqGB rfl rfl rfl rfl (fun h33 => ?_) (fun h33 => ?_)
            · skip
              refine seqQ rfl rfl (yMove (v := .bool _) rfl rfl) ?_
              refine seqQ rfl rfl (yPickT (v := .bool _) rfl rfl rfl) ?_
              exact hm17 _ (by repeat (first | (with_reducible exact Agree.refl _ _) | refine Agree.upd ?_ rfl | refine Agree.over ?_ rfl)) (by show Value.bool _ = Value.bool _; congr 1; grind)
            · skip
              refine seqU rfl rfl ?_
              refine seqQ rfl rfl (yPickF (v := .bool _) rfl rfl rfl) ?_
              exact hm17 _ (by repeat (first | (with_reducible exact Agree.refl _ _) | refine Agree.upd ?_ rfl | refine Agree.over ?_ rfl)) (by show Value.bool _ = Value.bool _; congr 1; grind)
          refine seqNil ?_
          refine hF16 _ _ ?_; clear hF16
          -- if t35
          refine wpIf rfl (fun hlt => ?_) (fun hlt => ?_)
          · skip
            have hk : k < L.length := hlt
            have hkb : k < b.b.length := by omega
            obtain ⟨p, ep, hp⟩ := rd7.at1 hk
            obtain ⟨q, eq, hq⟩ := rB.at1 hkb
            subst ep eq
            refine wpSkip ?_
            refine hF15 _ _ ?_; clear hF15
            refine wpSeq fun F18 hF18 => ?_
            refine wpBlock ?_
            refine wpSeq fun F19 hF19 => ?_
            refine wpRegionD Try_mixed [.q, .q, .q, .q, .q, .q, .q, .q, .q, .q, .q] 10 [0, 1, 0, 7, 15, 0, 32, 0, 224, 480, 1023] [] (by kernel_rfl) _ rfl [0, 1, 2, 3, 4, 5, 6, 7, 8, 9] rfl (by simp) ?_
            refine lexQ rfl rfl rfl rfl (fun H hM => (yFieldAddr rfl Try.underlying24 rfl Try.sizeOf22 rfl rfl)) ?_
            refine lexQ rfl rfl rfl rfl (fun H hM => (yLoad rfl Try.underlying22 rfl rfl (hM.ext.cell (hB7.cell rfl)))) ?_
            refine lexQ rfl rfl rfl rfl (fun H hM => (yMove (v := .int _ _) rfl rfl)) ?_
            refine lexQ rfl rfl rfl rfl (fun H hM => (yIdx1 rfl Try.underlying22 Try.sizeOf3 rfl rfl rfl hk)) ?_
            refine lexQ rfl rfl rfl rfl (fun H hM => (yLoad rfl Try.underlying3 rfl rfl (hM.ext.cell hp))) ?_
            refine lexQ rfl rfl rfl rfl (fun H hM => (yFieldAddr rfl Try.underlying24 rfl Try.sizeOf22 rfl rfl)) ?_
            refine lexQ rfl rfl rfl rfl (fun H hM => (yLoad rfl Try.underlying22 rfl rfl (hM.ext.cell (hB3.cell rfl)))) ?_
            refine lexQ rfl rfl rfl rfl (fun H hM => (yMove (v := .int _ _) rfl rfl)) ?_
            refine lexQ rfl rfl rfl rfl (fun H hM => (yIdx1 rfl Try.underlying22 Try.sizeOf3 rfl rfl rfl hkb)) ?_
            refine lexQ rfl rfl rfl rfl (fun H hM => (yLoad rfl Try.underlying3 rfl rfl (hM.ext.cell hq))) ?_
            -- tail
            refine lexNil0 rfl (fun hM => ?_)
            refine seqQ rfl rfl (yGtr rfl rfl rfl) ?_
            refine seqNil ?_
            refine hF19 _ _ ?_; clear hF19
            -- if t48
            refine wpIf rfl (fun hbad => ?_) (fun hbad => ?_)
            · skip
              have hbad : b.b[k] < L[k] := hbad
              refine wpSeq fun F20 hF20 => ?_
              refine wpRegion ?_
              refine seqQ rfl rfl (yAssign (v := .bool _) rfl rfl) ?_
              refine seqNil ?_
              refine hF20 _ _ ?_; clear hF20
              -- ret
              refine wpRet (fin1 (v := .bool _) rfl rfl ?_)
              exact ⟨by rw [subZ_yes hb e, decide_eq_false (fun h => by have := (flat_leq hll (by omega)).2 h k hk hkb; omega)], hE⟩
            · skip
              have hbad : ¬ b.b[k] < L[k] := hbad
              refine wpSkip ?_
              refine hF18 _ _ ?_; clear hF18
              refine wpRegion ?_
              refine seqQ rfl rfl (yMove (v := .int _ _) rfl rfl) ?_
              refine seqQ rfl rfl (yAdd rfl rfl rfl (by unfold In64; omega)) ?_
              refine seqQ rfl rfl (yAssign (v := .int _ _) rfl rfl) ?_
              refine seqNil ?_
              -- end loop
              exact loopEnd (k + 1) (by repeat (first | (with_reducible exact Agree.refl _ _) | refine Agree.upd ?_ rfl | refine Agree.over ?_ rfl)) (by omega) ⟨rfl, trivial⟩ ⟨hk, rfl, fun p h h' hp => by
                rcases Nat.lt_or_ge p k with h1 | h1
                · exact hall p h h' h1
                · obtain rfl : p = k := by omega
                  omega⟩
          · skip
            refine wpExit ?_
            refine hF13 _ _ ?_; clear hF13
            refine wpSeq fun F21 hF21 => ?_
            refine wpRegion ?_
            refine seqQ rfl rfl (yAssign (v := .bool _) rfl rfl) ?_
            refine seqNil ?_
            refine hF21 _ _ ?_; clear hF21
            -- ret
            refine wpRet (fin1 (v := .bool _) rfl rfl ?_)
            exact ⟨by rw [subZ_yes hb e, decide_eq_true ((flat_leq hll (by omega)).1 (fun p h h' => hall p h h' (by omega)))], hE⟩
end Go.Proofs.Ytjkbkmbblidipaa
