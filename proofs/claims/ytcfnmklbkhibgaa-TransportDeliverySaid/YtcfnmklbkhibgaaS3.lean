/- Package packet: Encode. -/
import Derived.Test.YtcfnmklbkhibgaaS2
import Derived.Test.YtcfnmklbkhibgaaK5
import Derived.Test.YtcfnmklbkhibgaaW9
import Derived.Test.YtcfnmklbkhibgaaW11
namespace Go.Proofs.Ytcfnmklbkhibgaa
open Go.RowKit

def toV (v : PVal) : Val := ⟨v.1, v.2.1, v.2.2⟩
set_option maxRecDepth 100000 in
theorem flatV (l : List PVal) : (l.map toV).flatMap eWV.F = l.flatMap eVal.F := by
  induction l with
  | nil => rfl
  | cons v l ih => rw [List.map_cons, List.flatMap_cons, List.flatMap_cons, ih]; rfl
set_option maxRecDepth 100000 in
theorem rdV {H : Heap} {A : Option Addr} {l : List PVal} (h : Rd eVal H A l) : Rd eWV H A (l.map toV) := fun hn => by
  rw [flatV]
  exact h (by intro e; exact hn (by rw [e]; rfl))
set_option maxRecDepth 100000 in
theorem hdr_le {n : Int} (h : 0 ≤ n ∧ n ≤ 1099511627776) : P64 n := ⟨by omega, by omega⟩
structure FewOk (p : Pk) : Prop where
  h0 : 0 ≤ p.kind ∧ p.kind ≤ 1099511627776
  h1 : 0 ≤ p.session ∧ p.session ≤ 1099511627776
  h2 : 0 ≤ p.epoch ∧ p.epoch ≤ 1099511627776
  h3 : 0 ≤ p.src ∧ p.src ≤ 1099511627776
  h4 : 0 ≤ p.dst ∧ p.dst ≤ 1099511627776
  h5 : 0 ≤ p.seq ∧ p.seq ≤ 1099511627776
  h6 : 0 ≤ p.label ∧ p.label ≤ 1099511627776
  vl : p.vals.length ≤ 4
  cl : p.clk.length ≤ 6
  vs : ∀ v ∈ p.vals, properB v = true
  cs : ∀ n ∈ p.clk, seqB n = true
set_option maxRecDepth 100000 in
theorem ValidP.few {p : Pk} (h : ValidP p) : FewOk p := by
  obtain ⟨k1, k2, s1, s2, hc⟩ := h
  have bare : BareP p → p.vals = [] ∧ p.clk = [] := fun hb => ⟨List.eq_nil_of_length_eq_zero (by have := hb.2.1; omega), List.eq_nil_of_length_eq_zero (by have := hb.2.2; omega)⟩
  by_cases h1 : p.kind = 1
  · rw [if_pos h1] at hc
    obtain ⟨⟨⟨a1, a2⟩, ⟨b1, b2⟩, -, q1, q2⟩, he, l1, l2, v1, c1, vs, cs⟩ := hc
    exact ⟨by omega, by omega, by omega, by omega, by omega, by omega, by omega, by omega, by omega, vs, cs⟩
  · rw [if_neg h1] at hc
    by_cases h2 : p.kind = 2
    · rw [if_pos h2] at hc
      obtain ⟨⟨⟨a1, a2⟩, ⟨b1, b2⟩, -, q1, q2⟩, hb, hl⟩ := hc
      obtain ⟨e1, e2⟩ := bare hb
      have := hb.1
      exact ⟨by omega, by omega, by omega, by omega, by omega, by omega, by omega, by rw [e1]; simp, by rw [e2]; simp, by rw [e1]; simp, by rw [e2]; simp⟩
    · rw [if_neg h2] at hc
      obtain ⟨⟨a1, a2⟩, hl, hb, hd, hq⟩ := hc
      obtain ⟨e1, e2⟩ := bare hb
      have := hb.1
      exact ⟨by omega, by omega, by omega, by omega, by omega, by omega, by omega, by rw [e1]; simp, by rw [e2]; simp, by rw [e1]; simp, by rw [e2]; simp⟩
set_option maxRecDepth 100000 in
theorem toV_ok {v : PVal} (h1 : In64 v.1) (h2 : In64 v.2.1) (h3 : v.2.2.size ≤ 1000000) : OkVal (toV v) := ⟨h1, h2, h3⟩
def hdrs (p : Pk) : List Int := [p.kind, p.session, p.epoch, p.src, p.dst, p.seq, p.label]
def encPk (p : Pk) : List UInt8 := (hdrs p).flatMap encI ++ encVals (p.vals.map toV) ++ encInts p.clk
def encP (p : Pk) : Int × List UInt8 := if ValidP p then (0, sealed (encPk p)) else (1, [])
set_option maxRecDepth 100000 in
theorem Encode_c (p : Pk) (A B : Option Addr) (ca cb : Nat) (H : Heap) (hA : Rd eVal H A p.vals) (hB : Rd eInt H B p.clk) (h64 : ∀ v ∈ p.vals, In64 v.1 ∧ In64 v.2.1) (hsz : ∀ v ∈ p.vals, v.2.2.size ≤ 1000000) :
    CallsH Try.prog 57 [.agg (pkC p A ca B cb).toArray] H fun v H' => ∃ C cc, v = .tuple #[.slice C (encP p).2.length cc, .int .i64 (encP p).1] ∧ Own eByte 5 H' H.size (.slice C (encP p).2.length cc) (encP p).2 ∧ Ext H H' := by
  refine callsH_of Try.func57 rfl Try.ntmps57 (Nat.le_of_ble_eq_true rfl) ?_
  refine wpSeq fun F1 hF1 => ?_
  refine wpRegion ?_
  refine seqN rfl rfl (nBoxA rfl rfl) (fun g1 H1 hx1 hB1 hg1 hl1 => ?_)
  refine seqQ rfl rfl (yAssign (v := .slice _ _ _) rfl rfl) ?_
  refine seqQ rfl rfl (yAssign (v := .int _ _) rfl rfl) ?_
  refine seqNil ?_
  refine hF1 _ _ ?_; clear hF1
  refine wpSeq fun F2 hF2 => ?_
  refine wpSeq fun F3 hF3 => ?_
  refine wpRegion ?_
  refine seqQ rfl rfl (yLoadB hB1 rfl Try.underlying27 rfl Try.sizeOf27 rfl) ?_
  -- e slot 8: call F30<farandole/packet.Valid> t7
  refine seqE rfl rfl (stepCall rfl Try.call30 rfl ?_)
  refine (pkValid_c p A B ca cb H1 (hA.ext hx1) (hB.ext hx1)).mono ?_
  rintro v H2 ⟨rfl, hx2⟩
  have hB2 := hB1.ext hx2
  have hE := hx1.trans hx2
  refine seqQ rfl rfl (yNot rfl rfl) ?_
  refine seqNil ?_
  refine hF3 _ _ ?_; clear hF3
  -- if t9
  refine wpCond rfl (fun hv => ?_) (fun hv => ?_)
  · skip
    have hv : ¬ ValidP p := by simpa using hv
    refine wpSeq fun F4 hF4 => ?_
    refine wpRegion ?_
    refine seqQ rfl rfl (yAssign (v := .slice _ _ _) rfl rfl) ?_
    refine seqQ rfl rfl (yAssign (v := .int _ _) rfl rfl) ?_
    refine seqNil ?_
    refine hF4 _ _ ?_; clear hF4
    -- ret
    refine wpRet (fin2 (v := .slice _ _ _) (v' := .int _ _) rfl rfl rfl ?_)
    have e : encP p = (1, []) := if_neg hv
    rw [e]
    exact ⟨none, 0, rfl, Own.nil _ _, hE⟩
  · skip
    have hv : ValidP p := by simpa using hv
    have e : encP p = (0, sealed (encPk p)) := if_pos hv
    have hf := hv.few
    have hh : ∀ n ∈ hdrs p, P64 n := by
      intro n hn
      unfold hdrs at hn
      simp only [List.mem_cons, List.not_mem_nil, or_false] at hn
      rcases hn with h | h | h | h | h | h | h <;> subst h
      · exact hdr_le hf.h0
      · exact hdr_le hf.h1
      · exact hdr_le hf.h2
      · exact hdr_le hf.h3
      · exact hdr_le hf.h4
      · exact hdr_le hf.h5
      · exact hdr_le hf.h6
    have hlen : (hdrs p).length = 7 := rfl
    refine wpSkip ?_
    refine hF2 _ _ ?_; clear hF2
    refine wpSeq fun F5 hF5 => ?_
    refine wpRegion ?_
    refine seqQ rfl rfl (yAssign (v := .slice _ _ _) rfl rfl) ?_
    refine seqNil ?_
    refine hF5 _ _ ?_; clear hF5
    refine wpSeq fun F6 hF6 => ?_
    refine wpSeq fun F7 hF7 => ?_
    refine wpRegion ?_
    refine seqQ rfl rfl (yFieldAddr rfl Try.underlying27 rfl Try.sizeOf3 rfl rfl) ?_
    refine seqQ rfl rfl (yLoad rfl Try.underlying3 rfl rfl (hB2.cell rfl)) ?_
    refine seqQ rfl rfl (yFieldAddr rfl Try.underlying27 rfl Try.sizeOf3 rfl rfl) ?_
    refine seqQ rfl rfl (yLoad rfl Try.underlying3 rfl rfl (hB2.cell rfl)) ?_
    refine seqQ rfl rfl (yFieldAddr rfl Try.underlying27 rfl Try.sizeOf3 rfl rfl) ?_
    refine seqQ rfl rfl (yLoad rfl Try.underlying3 rfl rfl (hB2.cell rfl)) ?_
    refine seqQ rfl rfl (yFieldAddr rfl Try.underlying27 rfl Try.sizeOf3 rfl rfl) ?_
    refine seqQ rfl rfl (yLoad rfl Try.underlying3 rfl rfl (hB2.cell rfl)) ?_
    refine seqQ rfl rfl (yFieldAddr rfl Try.underlying27 rfl Try.sizeOf3 rfl rfl) ?_
    refine seqQ rfl rfl (yLoad rfl Try.underlying3 rfl rfl (hB2.cell rfl)) ?_
    refine seqQ rfl rfl (yFieldAddr rfl Try.underlying27 rfl Try.sizeOf3 rfl rfl) ?_
    refine seqQ rfl rfl (yLoad rfl Try.underlying3 rfl rfl (hB2.cell rfl)) ?_
    refine seqQ rfl rfl (yFieldAddr rfl Try.underlying27 rfl Try.sizeOf3 rfl rfl) ?_
    refine seqQ rfl rfl (yLoad rfl Try.underlying3 rfl rfl (hB2.cell rfl)) ?_
    refine seqN rfl rfl (nBuildSlice (vs := [.int _ _, .int _ _, .int _ _, .int _ _, .int _ _, .int _ _, .int _ _]) rfl Try.underlying25 Try.sizeOf3 Try.zeroValue3 rfl rfl rfl rfl) (fun g24 H24 hx24 hB24 hg24 hl24 => ?_)
    refine seqQ rfl rfl (yLen rfl Try.underlying25 rfl) ?_
    refine seqQ rfl rfl (yMove (v := .int _ _) rfl rfl) ?_
    refine seqNil ?_
    refine hF7 _ _ ?_; clear hF7
    -- loop
    have rH : Rd eInt H24 (some ⟨g24, 0, none⟩) (hdrs p) := fun _ => ⟨_, rfl, fun j u hu => hB24.cell hu⟩
    have s2 := hx2.size
    have s24 := hx24.size
    refine wpBlock ?_
    refine wpLoopS [4, 6, 26, 27, 28, 29, 30, 31, 32, 33] (fun x : Nat × Value => [(26, .int .i64 x.1), (4, x.2)]) (fun z H' => z.1 ≤ (hdrs p).length ∧ Own eByte 5 H' H24.size z.2 (((hdrs p).take z.1).flatMap encI) ∧ Ext H24 H') (fun z => (hdrs p).length - z.1) (0, _) ⟨rfl, rfl, trivial⟩ ⟨Nat.zero_le _, Own.nil _ _, Ext.refl _⟩ ?_
    rintro ⟨k, v⟩ J Hk ⟨hk, ho, hg⟩
    dsimp only at hk ho hg
    have sk := hg.size
    obtain ⟨A2, c2, rfl, -⟩ := ho.form
    refine wpSeq fun F8 hF8 => ?_
    refine wpRegion ?_
    refine seqQ rfl rfl (yLss rfl rfl rfl) ?_
    refine seqNil ?_
    refine hF8 _ _ ?_; clear hF8
    refine wpSeq fun F9 hF9 => ?_
    -- if t27
    refine wpIf rfl (fun hlt => ?_) (fun hlt => ?_)
    · skip
      have hk : k < (hdrs p).length := by dsimp only at hlt; omega
      obtain ⟨q, eq, hq⟩ := (rH.ext hg).at1 hk
      obtain rfl := Option.some.inj eq
      have hfl := flat_le encI 10 ((hdrs p).take k) (fun y hy => encI_length (hh y (List.mem_of_mem_take hy)))
      rw [List.length_take] at hfl
      refine wpSkip ?_
      refine hF9 _ _ ?_; clear hF9
      refine wpSeq fun F10 hF10 => ?_
      refine wpBlock ?_
      refine wpSeq fun F11 hF11 => ?_
      refine wpRegion ?_
      refine seqQ rfl rfl (yIdx1 rfl Try.underlying25 Try.sizeOf3 rfl rfl rfl hk) ?_
      refine seqQ rfl rfl (yLoad rfl Try.underlying3 rfl rfl hq) ?_
      refine seqQ rfl rfl (yAssign (v := .int _ _) rfl rfl) ?_
      refine seqNil ?_
      refine hF11 _ _ ?_; clear hF11
      refine wpRegion ?_
      refine seqQ rfl rfl (yMove (v := .slice _ _ _) rfl rfl) ?_
      refine seqQ rfl rfl (yMove (v := .int _ _) rfl rfl) ?_
      -- e slot 32: call F76<farandole/wire.Int> t30 t31
      refine seqE rfl rfl (stepCall rfl Try.call76 rfl ?_)
      refine (int_c _ (hdrs p)[k] H24.size _ Hk (hh _ (List.getElem_mem hk)) (by omega) ho (by omega)).mono ?_
      rintro v3 H3 ⟨o3, g3⟩
      obtain ⟨A3, c3, rfl, -⟩ := o3.form
      refine seqQ rfl rfl (yAssign (v := .slice _ _ _) rfl rfl) ?_
      refine seqNil ?_
      refine hF10 _ _ ?_; clear hF10
      refine wpRegion ?_
      refine seqQ rfl rfl (yAdd rfl rfl rfl (by unfold In64; omega)) ?_
      refine seqQ rfl rfl (yMove (v := .int _ _) rfl rfl) ?_
      refine seqNil ?_
      -- end loop
      exact loopEnd (k + 1, _) (by repeat (first | (with_reducible exact Agree.refl _ _) | refine Agree.upd ?_ rfl | refine Agree.over ?_ rfl)) (by dsimp only; omega) ⟨rfl, rfl, trivial⟩ ⟨hk, by dsimp only; rw [flat_take encI hk]; exact o3, g3.ext hg (fun g e => (ho.lt g e).1)⟩
    · skip
      have ek : k = 7 := by dsimp only at hlt; omega
      subst ek
      have e7 : (hdrs p).take 7 = hdrs p := rfl
      have hB3 := (hB2.ext hx24).ext hg
      have l1 := hB2.lt
      have hnm : ∀ j, ((⟨g1, 0, none⟩ : Addr).add j).block ∉ (Value.slice A2 (((hdrs p).take 7).flatMap encI).length c2).ownBlock.toList := by
        intro j
        rw [Option.mem_toList, block_of_add]
        intro e
        have := (ho.lt _ e).1
        dsimp only at this
        omega
      refine wpExit ?_
      refine hF6 _ _ ?_; clear hF6
      refine wpSeq fun F12 hF12 => ?_
      refine wpRegionD Try_mixed [.q, .q, .q, .e, .q, .q, .e, .e, .q, .q] 6 [0, 0, 2, 7, 0, 16, 63, 127, 255, 511] (Value.slice A2 (((hdrs p).take 7).flatMap encI).length c2).ownBlock.toList (by kernel_rfl) _ rfl [0, 1, 2, 3, 4, 5] rfl (fun b hb => by rw [Option.mem_toList] at hb; exact (ho.lt b hb).2) ?_
      refine lexQ rfl rfl rfl rfl (fun H hM => (yMove (v := .slice _ _ _) rfl rfl)) ?_
      refine lexQ rfl rfl rfl rfl (fun H hM => (yFieldAddr rfl Try.underlying27 rfl Try.sizeOf24 rfl rfl)) ?_
      refine lexQ rfl rfl rfl rfl (fun H hM => (yLoad rfl Try.underlying24 rfl rfl (hM.cell (hB3.cell rfl) (hnm _)))) ?_
      -- e slot 37: call F79<farandole/wire.Values> t34 t36
      refine lexE0 rfl rfl rfl rfl rfl (fun hM37 => stepCall rfl Try.call79 rfl ?_)
      have hEk : Ext H Hk := (hE.trans hx24).trans hg
      have hl1 : (p.vals.map toV).length = p.vals.length := List.length_map _
      have hv4 := hf.vl
      have hc6 := hf.cl
      have hfl := flat_le encI 10 ((hdrs p).take 7) (fun y hy => encI_length (hh y (List.mem_of_mem_take hy)))
      have h70 : (((hdrs p).take 7).flatMap encI).length ≤ 70 := hfl
      have hokv : ∀ y ∈ p.vals.map toV, OkVal y := fun y hy => by
        obtain ⟨z, hz, rfl⟩ := List.mem_map.1 hy
        exact toV_ok (h64 z hz).1 (h64 z hz).2 (hsz z hz)
      have hfv := flat_le encV 1000020 (p.vals.map toV) (fun y hy => encV_le (hokv y hy))
      have hcv := valuesM_c 1000020 (Value.slice A2 (((hdrs p).take 7).flatMap encI).length c2) A ca (p.vals.map toV) H24.size _ Hk (by omega) ho (RdM.old (rdV hA) hEk (fun b hb => by
        rw [List.append_nil, Option.mem_toList] at hb
        have := (ho.lt b hb).1
        have := hE.size
        omega)) hokv (by omega) (by omega) (fun y hy => encV_le (hokv y hy)) (by rw [hl1]; omega)
      rw [hl1] at hcv
      refine hcv.mono ?_
      rintro v3 H3 ⟨o3, g3⟩
      refine lexGrew g3 (fun g e => by rw [Option.mem_toList]; exact e) (fun b hb => by rw [Option.mem_toList] at hb; exact (ho.lt b hb).2) (fun g e => (o3.lt g e).2) ?_
      have x3 : Ext H24 H3 := g3.ext hg (fun g e => (ho.lt g e).1)
      obtain ⟨A3, c3, rfl, -⟩ := o3.form
      refine lexQ rfl rfl rfl rfl (fun H hM => (yFieldAddr rfl Try.underlying27 rfl Try.sizeOf25 rfl rfl)) ?_
      refine lexQ rfl rfl rfl rfl (fun H hM => (yLoad rfl Try.underlying25 rfl rfl (hM.cell (hB3.cell rfl) (hnm _)))) ?_
      -- tail
      refine lexNil0 rfl (fun hM => ?_)
      -- e slot 40: call F78<farandole/wire.Ints> t37 t39
      refine seqE rfl rfl (stepCall rfl Try.call78 rfl ?_)
      have hvl : (encVals (p.vals.map toV)).length ≤ 4000100 := by
        have := encI_length (P64_len (show (p.vals.map toV).length ≤ 1000000 by omega))
        unfold encVals
        rw [List.length_append]
        rw [hl1] at hfv
        omega
      have hcs : ∀ y ∈ p.clk, P64 y := fun y hy => by
        have := hf.cs y hy
        unfold seqB at this
        simp only [decide_eq_true_eq] at this
        exact hdr_le this
      have s3 := x3.size
      refine (ints_c _ B cb p.clk H24.size _ H3 (by omega) o3 (hB.ext ((hE.trans hx24).trans x3)) (fun q e hne => ?_) hcs (by rw [List.length_append]; omega) (by omega)).mono ?_
      · obtain ⟨q', e', hq'⟩ := (hB.ext hE).lt (List.length_pos_iff.2 hne)
        rw [e] at e'
        obtain rfl := Option.some.inj e'
        omega
      rintro v4 H4 ⟨o4, g4⟩
      have x4 : Ext H24 H4 := g4.ext x3 (fun g e => (o3.lt g e).1)
      obtain ⟨A4, c4, rfl, -⟩ := o4.form
      -- e slot 41: call F77<farandole/sum.Seal> t40
      refine seqE rfl rfl (stepCall rfl Try.call77 rfl ?_)
      have hil : (encInts p.clk).length ≤ 100 := by
        have h1 := encI_length (P64_len (show p.clk.length ≤ 1000000 by omega))
        have h2 := flat_le encI 10 p.clk (fun y hy => encI_length (hcs y hy))
        unfold encInts
        rw [List.length_append]
        omega
      refine (Seal_c A4 c4 _ H4 (Own.rd o4).2 (by rw [List.length_append, List.length_append]; omega)).mono ?_
      rintro v5 H5 ⟨o5, x5⟩
      have s4 := x4.size
      have s1 := hE.size
      replace o5 : Own eByte 5 H5 H.size v5 (sealed (encPk p)) := o5.mono (by omega)
      obtain ⟨A5, c5, rfl, -⟩ := o5.form
      refine seqQ rfl rfl (yAssign (v := .slice _ _ _) rfl rfl) ?_
      refine seqQ rfl rfl (yAssign (v := .int _ _) rfl rfl) ?_
      refine seqNil ?_
      refine hF12 _ _ ?_; clear hF12
      -- ret
      refine wpRet (fin2 (v := .slice _ _ _) (v' := .int _ _) rfl rfl rfl ?_)
      rw [e]
      exact ⟨A5, c5, rfl, o5, ((hE.trans hx24).trans x4).trans x5⟩
end Go.Proofs.Ytcfnmklbkhibgaa
