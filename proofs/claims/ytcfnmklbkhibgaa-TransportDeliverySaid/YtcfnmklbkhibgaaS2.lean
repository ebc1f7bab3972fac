/- Package sum: Open. -/
import Derived.Test.YtcfnmklbkhibgaaS1
namespace Go.Proofs.Ytcfnmklbkhibgaa
open Go.RowKit

/-- The error and the payload of a sealed byte string. -/
def opened (b : List UInt8) : Int × List UInt8 := if b.length < 8 then (4, []) else if by8 (hash (b.take (b.length - 8))) = b.drop (b.length - 8) then (0, b.take (b.length - 8)) else (5, [])
set_option maxRecDepth 100000 in
theorem opened_few {b : List UInt8} (h : b.length < 8) : opened b = (4, []) := if_pos h
set_option maxRecDepth 100000 in
theorem opened_bad {b : List UInt8} (h : ¬ b.length < 8) (h2 : ¬ by8 (hash (b.take (b.length - 8))) = b.drop (b.length - 8)) : opened b = (5, []) := by unfold opened; rw [if_neg h, if_neg h2]
set_option maxRecDepth 100000 in
theorem opened_ok {b : List UInt8} (h : ¬ b.length < 8) (h2 : by8 (hash (b.take (b.length - 8))) = b.drop (b.length - 8)) : opened b = (0, b.take (b.length - 8)) := by unfold opened; rw [if_neg h, if_pos h2]
set_option maxRecDepth 100000 in
theorem opened_sealed (b : List UInt8) : opened (sealed b) = (0, b) := by
  have h8 : (by8 (hash b)).length = 8 := rfl
  have hl : (sealed b).length = b.length + 8 := by unfold sealed; rw [List.length_append, h8]
  have e : (sealed b).length - 8 = b.length := by omega
  have e1 : (sealed b).take ((sealed b).length - 8) = b := by rw [e]; unfold sealed; rw [List.take_left]
  have e2 : (sealed b).drop ((sealed b).length - 8) = by8 (hash b) := by rw [e]; unfold sealed; rw [List.drop_left]
  rw [opened_ok (by omega) (by rw [e1, e2]), e1]
set_option maxRecDepth 100000 in
theorem Open_c (A : Option Addr) (ca : Nat) (b : List UInt8) (H : Heap) (hA : Rd eByte H A b) (hca : b.length ≤ ca) (hl : b.length ≤ 1000000000) :
    CallsH Try.prog 70 [.slice A b.length ca] H fun v H' => ∃ B cb, v = .tuple #[.slice B (opened b).2.length cb, .int .i64 (opened b).1] ∧ Own eByte 5 H' H.size (.slice B (opened b).2.length cb) (opened b).2 ∧ Ext H H' := by
  refine callsH_of Try.func70 rfl Try.ntmps70 (Nat.le_of_ble_eq_true rfl) ?_
  refine wpSeq fun F1 hF1 => ?_
  refine wpRegion ?_
  refine seqQ rfl rfl (yAssign (v := .slice _ _ _) rfl rfl) ?_
  refine seqQ rfl rfl (yAssign (v := .int _ _) rfl rfl) ?_
  refine seqNil ?_
  refine hF1 _ _ ?_; clear hF1
  refine wpSeq fun F2 hF2 => ?_
  refine wpRegion ?_
  refine seqQ rfl rfl (yMove (v := .slice _ _ _) rfl rfl) ?_
  refine seqQ rfl rfl (yLen rfl Try.underlying58 rfl) ?_
  refine seqQ rfl rfl (ySub rfl rfl rfl (by unfold In64; omega)) ?_
  refine seqQ rfl rfl (yAssign (v := .int _ _) rfl rfl) ?_
  refine seqNil ?_
  refine hF2 _ _ ?_; clear hF2
  refine wpSeq fun F3 hF3 => ?_
  refine wpSeq fun F4 hF4 => ?_
  refine wpRegion ?_
  refine seqQ rfl rfl (yMove (v := .int _ _) rfl rfl) ?_
  refine seqQ rfl rfl (yLss rfl rfl rfl) ?_
  refine seqNil ?_
  refine hF4 _ _ ?_; clear hF4
  -- if t9
  refine wpIf rfl (fun h0 => ?_) (fun h0 => ?_)
  · skip
    refine wpSeq fun F5 hF5 => ?_
    refine wpRegion ?_
    refine seqQ rfl rfl (yAssign (v := .slice _ _ _) rfl rfl) ?_
    refine seqQ rfl rfl (yAssign (v := .int _ _) rfl rfl) ?_
    refine seqNil ?_
    refine hF5 _ _ ?_; clear hF5
    -- ret
    refine wpRet (fin2 (v := .slice _ _ _) (v' := .int _ _) rfl rfl rfl ?_)
    rw [opened_few (by omega)]
    exact ⟨none, 0, rfl, Own.nil _ _, Ext.refl _⟩
  · skip
    have h8 : 8 ≤ b.length := by omega
    obtain ⟨n, hn⟩ : ∃ n, n = b.length - 8 := ⟨_, rfl⟩
    have hz : ((b.length : Int) - 8) = (n : Int) := by omega
    obtain ⟨p, rfl, hp⟩ := hA (List.ne_nil_of_length_pos (by omega))
    have hA : Rd eByte H (some p) b := fun _ => ⟨p, rfl, hp⟩
    have hd : (b.drop n).length = 8 := by rw [List.length_drop]; omega
    have hrd := hA.drop (k := n) hca
    have hq : (if ca = n then (some p : Option Addr) else (some p).map (·.add (n * 1))) = some (p.add n) := by rw [if_neg (by omega), Nat.mul_one]; rfl
    have hcell : ∀ j u, ((b.drop n).flatMap eByte.F)[j]? = some u → cellH H ((p.add n).add j) = some u := by
      obtain ⟨q, e, hc⟩ := hrd (List.ne_nil_of_length_pos (by omega))
      have e2 : (if ca = n then (some p : Option Addr) else (some p).map (·.add (n * 1))) = some q := e
      rw [hq] at e2
      obtain rfl := Option.some.inj e2
      exact hc
    have hsz : ((b.drop n).flatMap eByte.F).length = 8 := by rw [eByte_flat, List.length_map]; exact hd
    refine wpSkip ?_
    refine hF3 _ _ ?_; clear hF3
    refine wpSeq fun F6 hF6 => ?_
    refine wpSeq fun F7 hF7 => ?_
    refine wpRegionD Try_mixed [.q, .q, .q, .e, .e, .q, .q, .q, .q, .q, .q] 10 [0, 0, 3, 7, 15, 0, 0, 96, 224, 480, 1023] [] (by kernel_rfl) _ rfl [0, 1, 2, 3, 4, 5, 6, 7, 8, 9] rfl (by simp) ?_
    refine lexQ rfl rfl rfl rfl (fun H hM => (yMove (v := .slice _ _ _) rfl rfl)) ?_
    refine lexQ rfl rfl rfl rfl (fun H hM => (yMove (v := .int _ _) rfl rfl)) ?_
    refine lexQ rfl rfl rfl rfl (fun H hM => (ySliceH rfl Try.underlying58 Try.sizeOf5 rfl rfl hz (by omega))) ?_
    -- e slot 13: call F88<farandole/sum.Of> t12
    refine lexX0 rfl rfl rfl rfl rfl (by simp) (fun hM13 => stepCall rfl Try.call88 rfl ?_)
    have hn8 : (b.take n).length = n := by rw [List.length_take]; omega
    have hc := Of_c (some p) ca (b.take n) H (hA.take n) (by omega)
    rw [hn8] at hc
    refine hc.mono ?_
    rintro v Hz ⟨rfl, e⟩
    obtain rfl := e.symm
    clear e hc
    refine ⟨Ext.refl _, fun _ => ?_⟩
    -- e slot 14: call F87<farandole/sum.eight> t13
    refine lexX0 rfl rfl rfl rfl rfl (by simp) (fun hM14 => stepCall rfl Try.call87 rfl ?_)
    refine (eight_c (hash (b.take n)) H).mono ?_
    rintro v H1 ⟨rfl, x1⟩
    refine ⟨x1, fun _ => ?_⟩
    refine lexQ rfl rfl rfl rfl (fun H hM => (yMove (v := .slice _ _ _) rfl rfl)) ?_
    refine lexQ rfl rfl rfl rfl (fun H hM => (yMove (v := .int _ _) rfl rfl)) ?_
    refine lexQ rfl rfl rfl rfl (fun H hM => (ySliceL rfl Try.underlying58 Try.sizeOf5 rfl rfl hz (by omega))) ?_
    refine lexQ rfl rfl rfl rfl (fun H hM => (yS2ap rfl Try.underlying129 rfl (by omega) hq)) ?_
    refine lexQ rfl rfl rfl rfl (fun H hM => (yLoadC (cs := (b.drop n).flatMap eByte.F) rfl Try.underlying129 rfl (by intro w; rw [hsz]; exact Try.sizeOf129 w) rfl (fun j u hu => hM.cell (hcell j u hu) (by simp)))) ?_
    -- tail
    refine lexNil0 rfl (fun hM => ?_)
    refine seqQ rfl rfl (yNeqArr rfl Try.underlying129 Try.underlying5 Try.sizeOf5 (by kernel_rfl) rfl rfl rfl hd) ?_
    refine seqNil ?_
    refine hF7 _ _ ?_; clear hF7
    -- if t20
    refine wpCond rfl (fun hne => ?_) (fun hne => ?_)
    · skip
      have hne : ¬ by8 (hash (b.take n)) = b.drop n := by simpa using hne
      refine wpSeq fun F8 hF8 => ?_
      refine wpRegion ?_
      refine seqQ rfl rfl (yAssign (v := .slice _ _ _) rfl rfl) ?_
      refine seqQ rfl rfl (yAssign (v := .int _ _) rfl rfl) ?_
      refine seqNil ?_
      refine hF8 _ _ ?_; clear hF8
      -- ret
      refine wpRet (fin2 (v := .slice _ _ _) (v' := .int _ _) rfl rfl rfl ?_)
      rw [opened_bad (by omega) (by rw [← hn]; exact hne)]
      exact ⟨none, 0, rfl, Own.nil _ _, x1⟩
    · skip
      have he : by8 (hash (b.take n)) = b.drop n := by simpa using hne
      refine wpSkip ?_
      refine hF6 _ _ ?_; clear hF6
      refine wpSeq fun F9 hF9 => ?_
      refine wpRegion ?_
      refine seqQ rfl rfl (yMove (v := .slice _ _ _) rfl rfl) ?_
      refine seqQ rfl rfl (yMove (v := .int _ _) rfl rfl) ?_
      refine seqQ rfl rfl (ySliceH rfl Try.underlying58 Try.sizeOf5 rfl rfl hz (by omega)) ?_
      -- e slot 24: builtin append [nilslice:0:0] t23 : [58, 58]
      refine seqE rfl rfl (stepApp (c := eByte) (Own.nil _ H.size) rfl Try.underlying58 elem_eByte rfl (by omega) rfl rfl hn8.symm ((hA.ext x1).take n) (by simp; omega) x1.size ?_)
      intro v2 H2 ho2 hg2
      rw [List.nil_append] at ho2
      have x2 : Ext H H2 := hg2.ext x1 (fun g e => by cases e)
      obtain ⟨A2, c2, rfl, -⟩ := ho2.form
      refine seqQ rfl rfl (yAssign (v := .slice _ _ _) rfl rfl) ?_
      refine seqQ rfl rfl (yAssign (v := .int _ _) rfl rfl) ?_
      refine seqNil ?_
      refine hF9 _ _ ?_; clear hF9
      -- ret
      refine wpRet (fin2 (v := .slice _ _ _) (v' := .int _ _) rfl rfl rfl ?_)
      rw [opened_ok (by omega) (by rw [← hn]; exact he), ← hn]
      exact ⟨A2, c2, rfl, ho2, x2⟩
end Go.Proofs.Ytcfnmklbkhibgaa
