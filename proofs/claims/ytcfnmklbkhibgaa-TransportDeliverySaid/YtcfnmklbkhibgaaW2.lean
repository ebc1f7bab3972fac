/- Package wire: values, events. -/
import Derived.Test.YtcfnmklbkhibgaaW1
namespace Go.Proofs.Ytcfnmklbkhibgaa
open Go.RowKit

def eWV : El Val := ⟨fun v => [.int .i64 v.kind, .int .i64 v.n, .string v.s], 3, by omega, fun _ => rfl, fun x u hu => by
  simp only [List.mem_cons, List.not_mem_nil, or_false] at hu
  rcases hu with rfl | rfl | rfl <;> rfl⟩
def OkVal (v : Val) : Prop := P64 v.kind ∧ P64 v.n ∧ v.s.size ≤ 1000000
set_option maxRecDepth 100000 in
theorem encV_le {v : Val} (h : OkVal v) : (encV v).length ≤ 1000020 := by
  obtain ⟨h1, h2, h3⟩ := h
  have e1 := encI_length h1
  have e2 := encI_length h2
  have e3 := encI_length (P64_len h3)
  unfold encV
  rw [List.length_append]
  split
  · omega
  · split
    · unfold encBytes
      rw [List.length_append]
      change (encI (v.s.size : Int)).length ≤ 10 at e3
      change _ + ((encI (v.s.size : Int)).length + v.s.size) ≤ _
      omega
    · simp
      omega
set_option maxRecDepth 100000 in
theorem value_c (v : Value) (x : Val) (base : Nat) (l : List UInt8) (H : Heap) (hb : base ≤ H.size) (hv : Own eByte 5 H base v l) (hx : OkVal x) (hl : l.length ≤ 300000000) :
    CallsH Try.prog 99 [v, .agg (eWV.F x).toArray] H fun v' H' => Own eByte 5 H' base v' (l ++ encV x) ∧ Grew H v H' v' := by
  obtain ⟨A0, c0, rfl, -⟩ := hv.form
  refine callsH_of Try.func99 rfl Try.ntmps99 (Nat.le_of_ble_eq_true rfl) ?_
  refine wpSeq fun F1 hF1 => ?_
  refine wpRegion ?_
  refine seqN rfl rfl (nBoxA rfl rfl) (fun g3 H3 hx3 hB3 hg3 hl3 => ?_)
  refine seqQ rfl rfl (yAssign (v := .slice _ _ _) rfl rfl) ?_
  refine seqNil ?_
  refine hF1 _ _ ?_; clear hF1
  refine wpSeq fun F2 hF2 => ?_
  refine wpRegion ?_
  refine seqQ rfl rfl (yMove (v := .slice _ _ _) rfl rfl) ?_
  refine seqQ rfl rfl (yFieldAddr rfl Try.underlying80 rfl Try.sizeOf3 rfl rfl) ?_
  refine seqQ rfl rfl (yLoad rfl Try.underlying3 rfl rfl (hB3.cell rfl)) ?_
  -- e slot 8: call F76<farandole/wire.Int> t5 t7
  refine seqE rfl rfl (stepCall rfl Try.call76 rfl ?_)
  refine (int_c _ x.kind base l H3 hx.1 (by have := hx3.size; omega) (hv.ext hx3) (by omega)).mono ?_
  rintro v1 H1 ⟨ho1, hg1⟩
  obtain ⟨A1, c1, rfl, -⟩ := ho1.form
  have hle := encI_length hx.1
  have hB := hB3.keep hg1.1 (by rw [Option.mem_toList]; intro e; have := (hv.lt _ e).2; omega)
  have hgg := (Grew.of_ext hx3 (Value.slice A0 l.length c0)).trans hg1
  have hs1 := hgg.1.size
  refine seqQ rfl rfl (yAssign (v := .slice _ _ _) rfl rfl) ?_
  refine seqNil ?_
  refine hF2 _ _ ?_; clear hF2
  refine wpSeq fun F3 hF3 => ?_
  refine wpSeq fun F4 hF4 => ?_
  refine wpRegion ?_
  refine seqQ rfl rfl (yFieldAddr rfl Try.underlying80 rfl Try.sizeOf3 rfl rfl) ?_
  refine seqQ rfl rfl (yLoad rfl Try.underlying3 rfl rfl (hB.cell rfl)) ?_
  refine seqNil ?_
  refine hF4 _ _ ?_; clear hF4
  refine wpBlock ?_
  refine wpSeq fun F5 hF5 => ?_
  refine wpRegion ?_
  refine seqQ rfl rfl (yEql rfl rfl rfl) ?_
  refine seqQ rfl rfl (yAssign (v := .bool _) rfl rfl) ?_
  refine seqNil ?_
  refine hF5 _ _ ?_; clear hF5
  -- if t11
  refine wpIf rfl (fun h1 => ?_) (fun h1 => ?_)
  · skip
    refine wpSeq fun F6 hF6 => ?_
    refine wpRegion ?_
    refine seqQ rfl rfl (yMove (v := .slice _ _ _) rfl rfl) ?_
    refine seqQ rfl rfl (yFieldAddr rfl Try.underlying80 rfl Try.sizeOf3 rfl rfl) ?_
    refine seqQ rfl rfl (yLoad rfl Try.underlying3 rfl rfl (hB.cell rfl)) ?_
    -- e slot 16: call F76<farandole/wire.Int> t13 t15
    refine seqE rfl rfl (stepCall rfl Try.call76 rfl ?_)
    refine (int_c _ x.n base _ H1 hx.2.1 (by omega) ho1 (by rw [List.length_append]; omega)).mono ?_
    rintro v2 H2 ⟨ho2, hg2⟩
    obtain ⟨A2, c2, rfl, -⟩ := ho2.form
    refine seqQ rfl rfl (yAssign (v := .slice _ _ _) rfl rfl) ?_
    refine seqNil ?_
    refine hF6 _ _ ?_; clear hF6
    -- ret
    refine wpRet (fin1 (v := .slice _ _ _) rfl rfl ?_)
    rw [show l ++ encV x = l ++ encI x.kind ++ encI x.n from by unfold encV; rw [if_pos h1, List.append_assoc]]
    exact ⟨ho2, hgg.trans hg2⟩
  · skip
    refine wpSeq fun F7 hF7 => ?_
    refine wpRegion ?_
    refine seqQ rfl rfl (yEql rfl rfl rfl) ?_
    refine seqQ rfl rfl (yAssign (v := .bool _) rfl rfl) ?_
    refine seqNil ?_
    refine hF7 _ _ ?_; clear hF7
    -- if t17
    refine wpIf rfl (fun h2 => ?_) (fun h2 => ?_)
    · skip
      refine wpSeq fun F8 hF8 => ?_
      refine wpRegion ?_
      refine seqQ rfl rfl (yMove (v := .slice _ _ _) rfl rfl) ?_
      refine seqQ rfl rfl (yFieldAddr rfl Try.underlying80 rfl Try.sizeOf9 rfl rfl) ?_
      refine seqQ rfl rfl (yLoad rfl Try.underlying9 rfl rfl (hB.cell rfl)) ?_
      -- e slot 22: call F106<farandole/wire.Text> t19 t21
      refine seqE rfl rfl (stepCall rfl Try.call106 rfl ?_)
      refine (text_c _ x.s base _ H1 (by omega) ho1 (by rw [List.length_append]; omega) hx.2.2).mono ?_
      rintro v2 H2 ⟨ho2, hg2⟩
      obtain ⟨A2, c2, rfl, -⟩ := ho2.form
      refine seqQ rfl rfl (yAssign (v := .slice _ _ _) rfl rfl) ?_
      refine seqNil ?_
      refine hF8 _ _ ?_; clear hF8
      -- ret
      refine wpRet (fin1 (v := .slice _ _ _) rfl rfl ?_)
      rw [show l ++ encV x = l ++ encI x.kind ++ encBytes x.s.data.toList from by unfold encV; rw [if_neg h1, if_pos h2, List.append_assoc]]
      exact ⟨ho2, hgg.trans hg2⟩
    · skip
      refine wpSkip ?_
      refine hF3 _ _ ?_; clear hF3
      refine wpSeq fun F9 hF9 => ?_
      refine wpRegion ?_
      refine seqQ rfl rfl (yMove (v := .slice _ _ _) rfl rfl) ?_
      refine seqQ rfl rfl (yAssign (v := .slice _ _ _) rfl rfl) ?_
      refine seqNil ?_
      refine hF9 _ _ ?_; clear hF9
      -- ret
      refine wpRet (fin1 (v := .slice _ _ _) rfl rfl ?_)
      rw [show l ++ encV x = l ++ encI x.kind from by unfold encV; rw [if_neg h1, if_neg h2, List.append_nil]]
      exact ⟨ho1, hgg⟩
set_option maxRecDepth 100000 in
theorem rdGrew {α : Type} {c : El α} {H H' : Heap} {v v' : Value} {A : Option Addr} {l : List α} (hA : Rd c H A l) (hg : Grew H v H' v') (hne : ∀ p, A = some p → v.ownBlock ≠ some p.block) : RdM c (v'.ownBlock.toList ++ []) H' A l := fun hn => by
  obtain ⟨p, e, hc⟩ := hA.keep hg.1 (fun p e hm => by rw [Option.mem_toList] at hm; exact hne p e hm) hn
  refine ⟨p, e, fun hm => ?_, hc⟩
  rw [List.append_nil, Option.mem_toList] at hm
  rcases hg.2 _ hm with h | h
  · exact hne p e h
  · obtain ⟨q, eq, hq⟩ := hA.lt (List.length_pos_iff.2 hn)
    rw [e] at eq
    obtain rfl := Option.some.inj eq
    omega
set_option maxRecDepth 100000 in
theorem valuesM_c (m : Nat) (v : Value) (A : Option Addr) (ca : Nat) (x : List Val) (base : Nat) (l : List UInt8) (H : Heap) (hb : base ≤ H.size) (hv : Own eByte 5 H base v l) (hA : RdM eWV (v.ownBlock.toList ++ []) H A x) (hok : ∀ y ∈ x, OkVal y) (hl : l.length ≤ 100000000) (hs : x.length ≤ 1000000) (hm : ∀ y ∈ x, (encV y).length ≤ m) (hxm : x.length * m ≤ 100002000) :
    CallsH Try.prog 79 [v, .slice A x.length ca] H fun v' H' => Own eByte 5 H' base v' (l ++ encVals x) ∧ Grew H v H' v' := by
  obtain ⟨A0, c0, rfl, -⟩ := hv.form
  refine callsH_of Try.func79 rfl Try.ntmps79 (Nat.le_of_ble_eq_true rfl) ?_
  refine wpSeq fun F1 hF1 => ?_
  refine wpRegion ?_
  refine seqQ rfl rfl (yAssign (v := .slice _ _ _) rfl rfl) ?_
  refine seqNil ?_
  refine hF1 _ _ ?_; clear hF1
  refine wpSeq fun F2 hF2 => ?_
  refine wpRegion ?_
  refine seqQ rfl rfl (yMove (v := .slice _ _ _) rfl rfl) ?_
  refine seqQ rfl rfl (yMove (v := .slice _ _ _) rfl rfl) ?_
  refine seqQ rfl rfl (yLen rfl Try.underlying24 rfl) ?_
  -- e slot 10: call F76<farandole/wire.Int> t7 t9
  refine seqE rfl rfl (stepCall rfl Try.call76 rfl ?_)
  refine (int_c _ x.length base l H (P64_len (by omega)) hb hv (by omega)).mono ?_
  rintro v1 H1 ⟨ho1, hg1⟩
  obtain ⟨A1, c1, rfl, -⟩ := ho1.form
  have hle := encI_length (P64_len (show x.length ≤ 1000000 by omega))
  have rA1 := hA.tr (Tr.grew hg1 [])
  refine seqQ rfl rfl (yAssign (v := .slice _ _ _) rfl rfl) ?_
  refine seqNil ?_
  refine hF2 _ _ ?_; clear hF2
  refine wpSeq fun F3 hF3 => ?_
  refine wpSeq fun F4 hF4 => ?_
  refine wpRegion ?_
  refine seqQ rfl rfl (yMove (v := .slice _ _ _) rfl rfl) ?_
  refine seqQ rfl rfl (yLen rfl Try.underlying24 rfl) ?_
  refine seqQ rfl rfl (yMove (v := .int _ _) rfl rfl) ?_
  refine seqNil ?_
  refine hF4 _ _ ?_; clear hF4
  -- loop
  refine wpBlock ?_
  refine wpLoopS [0, 6, 13, 14, 15, 16, 17, 18, 19, 20] (fun z : Nat × Value => [(13, .int .i64 z.1), (0, z.2)]) (fun z H' => z.1 ≤ x.length ∧ Own eByte 5 H' base z.2 (l ++ encI x.length ++ (x.take z.1).flatMap encV) ∧ Grew H (.slice A0 l.length c0) H' z.2 ∧ RdM eWV (z.2.ownBlock.toList ++ []) H' A x) (fun z => x.length - z.1) (0, _) ⟨rfl, rfl, trivial⟩ ⟨Nat.zero_le _, by simpa using ho1, hg1, rA1⟩ ?_
  rintro ⟨k, v⟩ J Hk ⟨hk, ho, hg, rA⟩
  dsimp only at hk ho hg rA
  obtain ⟨A2, c2, rfl, -⟩ := ho.form
  have hsz := hg.1.size
  refine wpSeq fun F5 hF5 => ?_
  refine wpRegion ?_
  refine seqQ rfl rfl (yLss rfl rfl rfl) ?_
  refine seqNil ?_
  refine hF5 _ _ ?_; clear hF5
  refine wpSeq fun F6 hF6 => ?_
  -- if t14
  refine wpIf rfl (fun hlt => ?_) (fun hlt => ?_)
  · skip
    have hk : k < x.length := by dsimp only at hlt; omega
    obtain ⟨p, rfl, hp⟩ := rA.rd.at hk
    have hfl := flat_le encV m (x.take k) (fun y hy => hm y (List.mem_of_mem_take hy))
    rw [List.length_take] at hfl
    have hfl := Nat.le_trans hfl (Nat.le_trans (Nat.mul_le_mul_right m (Nat.min_le_right k x.length)) hxm)
    refine wpSkip ?_
    refine hF6 _ _ ?_; clear hF6
    refine wpSeq fun F7 hF7 => ?_
    refine wpBlock ?_
    refine wpSeq fun F8 hF8 => ?_
    refine wpRegion ?_
    refine seqQ rfl rfl (yIdx rfl Try.underlying24 Try.sizeOf80 rfl rfl rfl hk) ?_
    refine seqQ rfl rfl (yLoadC (cs := eWV.F x[k]) rfl Try.underlying80 rfl Try.sizeOf80 rfl hp) ?_
    refine seqN rfl rfl (nAlloc rfl Try.zeroValue80 rfl) (fun g6 H6 hx6 hB6 hg6 hl6 => ?_)
    -- e slot None: store T80 t6 t16
    refine seqE0 rfl rfl (stepStoreB rfl (by kernel_rfl) rfl rfl rfl hB6 rfl ?_)
    intro H4 hB4 hK4
    have x4 : Ext Hk H4 := hx6.mine hK4 (by simp; omega)
    refine seqNil ?_
    refine hF8 _ _ ?_; clear hF8
    refine wpRegion ?_
    refine seqQ rfl rfl (yMove (v := .slice _ _ _) rfl rfl) ?_
    refine seqQ rfl rfl (yLoadB hB4 rfl Try.underlying80 rfl Try.sizeOf80 rfl) ?_
    -- e slot 19: call F99<farandole/wire.Value> t17 t18
    refine seqE rfl rfl (stepCall rfl Try.call99 rfl ?_)
    refine (value_c _ x[k] base _ H4 (by have := x4.size; omega) (ho.ext x4) (hok _ (List.getElem_mem hk)) (by rw [List.length_append, List.length_append]; omega)).mono ?_
    rintro v3 H3 ⟨ho3, hg3⟩
    obtain ⟨A3, c3, rfl, -⟩ := ho3.form
    refine seqQ rfl rfl (yAssign (v := .slice _ _ _) rfl rfl) ?_
    refine seqNil ?_
    refine hF7 _ _ ?_; clear hF7
    refine wpRegion ?_
    refine seqQ rfl rfl (yAdd rfl rfl rfl (by unfold In64; omega)) ?_
    refine seqQ rfl rfl (yMove (v := .int _ _) rfl rfl) ?_
    refine seqNil ?_
    -- end loop
    exact loopEnd (k + 1, _) (by repeat (first | (with_reducible exact Agree.refl _ _) | refine Agree.upd ?_ rfl | refine Agree.over ?_ rfl)) (by dsimp only; omega) ⟨rfl, rfl, trivial⟩ ⟨hk, by dsimp only; rw [flat_take encV hk, ← List.append_assoc]; exact ho3, (hg.trans (Grew.of_ext x4 _)).trans hg3, (rA.tr (Tr.of_ext x4 _)).tr (Tr.grew hg3 [])⟩
  · skip
    have ek : k = x.length := by dsimp only at hlt; omega
    subst ek
    refine wpExit ?_
    refine hF3 _ _ ?_; clear hF3
    refine wpSeq fun F9 hF9 => ?_
    refine wpRegion ?_
    refine seqQ rfl rfl (yMove (v := .slice _ _ _) rfl rfl) ?_
    refine seqQ rfl rfl (yAssign (v := .slice _ _ _) rfl rfl) ?_
    refine seqNil ?_
    refine hF9 _ _ ?_; clear hF9
    -- ret
    refine wpRet (fin1 (v := .slice _ _ _) rfl rfl ?_)
    rw [show l ++ encVals x = l ++ encI x.length ++ (x.take x.length).flatMap encV from by rw [List.take_length, List.append_assoc]; rfl]
    exact ⟨ho, hg⟩
set_option maxRecDepth 100000 in
theorem values_c (v : Value) (A : Option Addr) (ca : Nat) (x : List Val) (base : Nat) (l : List UInt8) (H : Heap) (hb : base ≤ H.size) (hv : Own eByte 5 H base v l) (hA : RdM eWV (v.ownBlock.toList ++ []) H A x) (hok : ∀ y ∈ x, OkVal y) (hl : l.length ≤ 100000000) (hs : x.length ≤ 100) :
    CallsH Try.prog 79 [v, .slice A x.length ca] H fun v' H' => Own eByte 5 H' base v' (l ++ encVals x) ∧ Grew H v H' v' :=
  valuesM_c 1000020 v A ca x base l H hb hv hA hok hl (by omega) (fun y hy => encV_le (hok y hy)) (by omega)
def OkEvt (x : Evt) : Prop := P64 x.role ∧ P64 x.peer ∧ P64 x.label ∧ (∀ y ∈ x.values, OkVal y) ∧ x.values.length ≤ 100
@[reducible] def evC (x : Evt) (A : Option Addr) (ca : Nat) : List Value := [.int .i64 x.role, .bool x.send, .int .i64 x.peer, .int .i64 x.label, .slice A x.values.length ca]
end Go.Proofs.Ytcfnmklbkhibgaa
