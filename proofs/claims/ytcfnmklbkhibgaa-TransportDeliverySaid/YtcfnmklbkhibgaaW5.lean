/- Package wire: the reader: values, lists, events. -/
import Derived.Test.YtcfnmklbkhibgaaW4
namespace Go.Proofs.Ytcfnmklbkhibgaa
open Go.RowKit

set_option maxRecDepth 100000 in
theorem keepExt {g : Nat} {H H' H'' : Heap} (h : Keep [g] H H') (hx : Ext H' H'') : Keep [g] H H'' := h.trans (hx.keep _)
set_option maxRecDepth 100000 in
theorem keepNew {g g' : Nat} {H H' H'' : Heap} (h : Keep [g] H H') (k : Keep [g'] H' H'') (hg : H.size ≤ g') : Keep [g] H H'' :=
  ⟨Nat.le_trans h.size k.size, fun b hb hm => (k.at_ b (Nat.lt_of_lt_of_le hb h.size) (by simp; omega)).trans (h.at_ b hb hm)⟩
set_option maxRecDepth 100000 in
/-- A block that is new since H0 turns: the reader stands. -/
theorem Rdr.new {H H' : Heap} {g g' : Nat} {B : Option Addr} {cB : Nat} {D : List UInt8} {k k0 : Nat} {f f0 : Bool} {H0 : Heap} (h : Rdr H g B cB D k f) (h0 : Rdr H0 g B cB D k0 f0) (hK : Keep [g'] H H') (hg : H0.size ≤ g') : Rdr H' g B cB D k f := by
  have l := h0.blk.lt
  refine ⟨h.blk.keep hK (by simp; omega), fun hn => ?_, h.le, h.cap, h.few⟩
  obtain ⟨p, e, hm, hc⟩ := h.rd hn
  obtain ⟨q, eq, hq⟩ := h0.rd.rd.lt (List.length_pos_iff.2 hn)
  rw [e] at eq
  obtain rfl := Option.some.inj eq
  exact ⟨p, e, hm, fun j u hu => hK.cell (hc j u hu) (by rw [block_of_add]; simp; omega)⟩
set_option maxRecDepth 100000 in
/-- What a method leaves, in one state. -/
theorem RP.flat {α : Type} {p : List UInt8 → Option (α × List UInt8)} {V : Heap → α → Value → Prop} {U : Heap → Value → Prop} {g : Nat} {B : Option Addr} {cB : Nat} {D : List UInt8} {k : Nat} {f : Bool} {H H' : Heap} {v : Value} (h : RP p V U g B cB D k f H v H') :
    Keep [g] H H' ∧ ∃ f' k', Rdr H' g B cB D k' f' ∧ ((f' = true ∧ prs p f D k = none ∧ U H' v) ∨ (f' = false ∧ ∃ a, prs p f D k = some (a, D.drop k') ∧ V H' a v)) := by
  obtain ⟨hK, ⟨a, r, k', hp, rfl, h1, hv⟩ | ⟨hp, ⟨k', h1⟩, hu⟩⟩ := h
  · exact ⟨hK, false, k', h1, .inr ⟨rfl, a, hp, hv⟩⟩
  · exact ⟨hK, true, k', h1, .inl ⟨rfl, hp, hu⟩⟩
set_option maxRecDepth 100000 in
theorem prs_ff {α : Type} {p : List UInt8 → Option (α × List UInt8)} {f : Bool} {D : List UInt8} {k : Nat} {x : α × List UInt8} (h : prs p f D k = some x) : f = false ∧ p (D.drop k) = some x := by
  cases f
  · exact ⟨rfl, h⟩
  · cases h
def pVal (b : List UInt8) : Option (Val × List UInt8) := (pBnd 1 2 b).bind fun x => if x.1 = 1 then (rdI x.2).map fun y => (⟨1, y.1, ⟨#[]⟩⟩, y.2) else (pBytes 40 x.2).map fun y => (⟨x.1, 0, ⟨y.1.toArray⟩⟩, y.2)
def VV (_ : Heap) (x : Val) (v : Value) : Prop := v = .agg (eWV.F x).toArray ∧ OkVal x ∧ x.s.size ≤ 40 ∧ ((x.kind = 1 ∧ x.s = ⟨#[]⟩) ∨ (x.kind = 2 ∧ x.n = 0))
def UV (_ : Heap) (v : Value) : Prop := ∃ x : Val, v = .agg (eWV.F x).toArray
set_option maxRecDepth 100000 in
theorem pBytes_le {m : Int} {b x r : List UInt8} (h : pBytes m b = some (x, r)) : (x.length : Int) ≤ m := by
  unfold pBytes pBnd at h
  cases hq : rdI b with
  | none => rw [hq] at h; cases h
  | some y =>
    rw [hq] at h
    simp only [Option.bind_some] at h
    by_cases hy : 0 ≤ y.1 ∧ y.1 ≤ m
    · rw [if_pos hy] at h
      simp only [Option.bind_some] at h
      split at h
      · rename_i hl
        simp only [Option.some.injEq, Prod.mk.injEq] at h
        rw [← h.1, List.length_take]
        omega
      · cases h
    · rw [if_neg hy] at h; cases h
set_option maxRecDepth 100000 in
theorem value_r (g : Nat) (B : Option Addr) (cB : Nat) (D : List UInt8) (k : Nat) (f : Bool) (H : Heap) (h : Rdr H g B cB D k f) :
    CallsH Try.prog 94 [.pointer (some ⟨g, 0, none⟩)] H fun v H' => RP pVal VV UV g B cB D k f H v H' := by
  refine callsH_of Try.func94 rfl Try.ntmps94 (Nat.le_of_ble_eq_true rfl) ?_
  refine wpSeq fun F1 hF1 => ?_
  refine wpRegion ?_
  refine seqN rfl rfl (nAlloc rfl Try.zeroValue80 rfl) (fun g2 H2 hx2 hB2 hg2 hl2 => ?_)
  refine seqNil ?_
  refine hF1 _ _ ?_; clear hF1
  refine wpSeq fun F2 hF2 => ?_
  refine wpRegion ?_
  refine seqQ rfl rfl (yMove (v := .pointer _) rfl rfl) ?_
  -- e slot 5: call F104<(*farandole/wire.Reader).bounded> t4 [i:i64:1] [i:i64:2]
  refine seqE rfl rfl (stepCall rfl Try.call104 rfl ?_)
  refine (bounded_c g B cB D k f 1 2 H2 (h.ext hx2)).mono ?_
  rintro v H1 hr
  obtain ⟨hK1, f1, k1, h1, hc1⟩ := hr.flat
  obtain ⟨n, rfl⟩ : ∃ n, v = .int .i64 n := by
    rcases hc1 with ⟨_, _, z, rfl⟩ | ⟨_, a, _, rfl, _⟩
    · exact ⟨z, rfl⟩
    · exact ⟨a, rfl⟩
  have hE2 := hx2
  have hr2 := h.ext hx2
  have s2 := hx2.size
  have s1 := hK1.size
  have l2 := hB2.lt
  have lg := h.blk.lt
  refine seqQ rfl rfl (yBuild (pl := [(0, 1), (1, 1), (2, 1)]) (vs := [(0, .int _ _)]) rfl Try.underlying80 Try.zeroValue80 rfl (by unfold Places; kernel_rfl) rfl rfl) ?_
  refine seqN rfl rfl (nAlloc rfl Try.zeroValue80 rfl) (fun g3 H3 hx3 hB3 hg3 hl3 => ?_)
  -- e slot None: store T80 t3 t6
  refine seqE0 rfl rfl (stepStoreB rfl (by kernel_rfl) rfl rfl rfl hB3 rfl ?_)
  intro H4 hB4 hK4
  have s3 := hx3.size
  have h4 := (h1.ext hx3).new hr2 hK4 (by omega)
  have hKa : Keep [g] H H4 := keepNew (keepExt ((hx2.keep [g]).trans hK1) hx3) hK4 (by omega)
  have hB24 : Blk H4 g2 [.int .i64 0, .int .i64 0, .string ⟨#[]⟩] _ := ((hB2.keep hK1 (by simp; omega)).ext hx3).keep hK4 (by simp; omega)
  refine seqNil ?_
  refine hF2 _ _ ?_; clear hF2
  refine wpSeq fun F3 hF3 => ?_
  refine wpBlock ?_
  refine wpSeq fun F4 hF4 => ?_
  refine wpRegion ?_
  refine seqQ rfl rfl (yMove (v := .pointer _) rfl rfl) ?_
  refine seqQ rfl rfl (yNilCheck rfl rfl) ?_
  refine seqQ rfl rfl (yFieldAddr rfl Try.underlying134 rfl Try.sizeOf4 rfl rfl) ?_
  refine seqQ rfl rfl (yLoad rfl Try.underlying4 rfl rfl (h4.blk.cell rfl)) ?_
  refine seqQ rfl rfl (yAssign (v := .bool _) rfl rfl) ?_
  refine seqNil ?_
  refine hF4 _ _ ?_; clear hF4
  -- if t11
  cases f1
  · skip
    rcases hc1 with ⟨h', _⟩ | ⟨-, a, hp1, ha, hlo, hhi⟩
    · cases h'
    injection ha with _ ha
    subst ha
    obtain ⟨hf0, hq1⟩ := prs_ff hp1
    subst hf0
    refine wpF rfl ?_
    refine wpSeq fun F5 hF5 => ?_
    refine wpRegion ?_
    refine seqQ rfl rfl (yFieldAddr rfl Try.underlying80 rfl Try.sizeOf3 rfl rfl) ?_
    refine seqQ rfl rfl (yLoad rfl Try.underlying3 rfl rfl (hB4.cell rfl)) ?_
    refine seqQ rfl rfl (yEql rfl rfl rfl) ?_
    refine seqQ rfl rfl (yAssign (v := .bool _) rfl rfl) ?_
    refine seqNil ?_
    refine hF5 _ _ ?_; clear hF5
    -- if t16
    refine wpIf rfl (fun hn1 => ?_) (fun hn1 => ?_)
    · skip
      refine wpRegion ?_
      refine seqQ rfl rfl (yMove (v := .pointer _) rfl rfl) ?_
      -- e slot 21: call F90<(*farandole/wire.Reader).integer> t20
      refine seqE rfl rfl (stepCall rfl Try.call90 rfl ?_)
      refine (integer_c g B cB D k1 false H4 h4).mono ?_
      rintro v H5 hr
      obtain ⟨hK5, f5, k5, h5, hc5⟩ := hr.flat
      obtain ⟨m, rfl⟩ : ∃ n, v = .int .i64 n := by
        rcases hc5 with ⟨_, _, z, rfl⟩ | ⟨_, a, _, rfl, _⟩
        · exact ⟨z, rfl⟩
        · exact ⟨a, rfl⟩
      have l4 := hB4.lt
      refine seqQ rfl rfl (yFieldAddr rfl Try.underlying80 rfl Try.sizeOf3 rfl rfl) ?_
      -- e slot None: store T3 t22 t21
      refine seqE0 rfl rfl (stepStore rfl Try.sizeOf3 rfl rfl rfl rfl (hB4.keep hK5 (by simp; omega)) (Nat.le_of_ble_eq_true rfl) ?_)
      intro H6 hB6 hK6
      have h6 := h5.new h hK6 (by omega)
      refine seqNil ?_
      refine hF3 _ _ ?_; clear hF3
      refine wpSeq fun F6 hF6 => ?_
      refine wpRegion ?_
      refine seqQ rfl rfl (yLoadB hB6 rfl Try.underlying80 rfl Try.sizeOf80 rfl) ?_
      -- e slot None: store T80 t2 t23
      refine seqE0 rfl rfl (stepStoreB rfl (by kernel_rfl) rfl rfl rfl ((hB24.keep hK5 (by simp; omega)).keep hK6 (by simp; omega)) rfl ?_)
      intro H7 hB7 hK7
      have h7 := h6.new h hK7 (by omega)
      have hK := keepNew (keepNew (hKa.trans hK5) hK6 (by omega)) hK7 (by omega)
      refine seqNil ?_
      refine hF6 _ _ ?_; clear hF6
      -- ret
      refine wpRet (finR1 rfl (resC Try.underlying80 rfl (by kernel_rfl) rfl hB7) ?_)
      rcases hc5 with ⟨rfl, hp5, _⟩ | ⟨rfl, a, hp5, ha, h64⟩
      · refine RP.fail hK ?_ h7 ⟨⟨n, m, ⟨#[]⟩⟩, rfl⟩
        rw [prs_f]
        unfold pVal
        rw [hq1]
        simp only [Option.bind_some]
        rw [if_pos hn1]
        rw [prs_f] at hp5
        rw [hp5]
        rfl
      · injection ha with _ ha
        subst ha
        refine RP.good (a := ⟨1, m, ⟨#[]⟩⟩) hK ?_ h7 ⟨by rw [← hn1]; rfl, ⟨by show P64 1; unfold P64; omega, h64, by show (0 : Nat) ≤ _; omega⟩, by show (0 : Nat) ≤ _; omega, .inl ⟨rfl, rfl⟩⟩
        unfold pVal
        rw [hq1]
        simp only [Option.bind_some]
        rw [if_pos hn1]
        rw [prs_f] at hp5
        rw [hp5]
        rfl
    · skip
      have hn2 : n = 2 := by omega
      subst hn2
      refine wpRegion ?_
      refine seqQ rfl rfl (yMove (v := .pointer _) rfl rfl) ?_
      -- e slot 8: call F105<(*farandole/wire.Reader).bytes> t7 [i:i64:40]
      refine seqE rfl rfl (stepCall rfl Try.call105 rfl ?_)
      refine (bytesR_c g B cB D k1 false 40 H4 h4 (by omega)).mono ?_
      rintro v H5 hr
      obtain ⟨hK5, f5, k5, h5, hc5⟩ := hr.flat
      obtain ⟨A, c, bs, rfl, hA, hc5⟩ : ∃ A c bs, v = .slice A (List.length (α := UInt8) bs) c ∧ Rd eByte H5 A bs ∧ ((f5 = true ∧ prs (pBytes 40) false D k1 = none) ∨ (f5 = false ∧ prs (pBytes 40) false D k1 = some (bs, D.drop k5))) := by
        rcases hc5 with ⟨h, h', rfl⟩ | ⟨h, a, h', A, c, rfl, hA⟩
        · exact ⟨none, 0, [], rfl, Rd.nil _ _, .inl ⟨h, h'⟩⟩
        · exact ⟨A, c, a, rfl, hA.rd, .inr ⟨h, h'⟩⟩
      have l4 := hB4.lt
      refine seqQ rfl rfl (yBytesStr rfl Try.underlying58 Try.underlying9 Try.underlying5 rfl rfl hA) ?_
      refine seqQ rfl rfl (yFieldAddr rfl Try.underlying80 rfl Try.sizeOf9 rfl rfl) ?_
      -- e slot None: store T9 t10 t9
      refine seqE0 rfl rfl (stepStore rfl Try.sizeOf9 rfl rfl rfl rfl (hB4.keep hK5 (by simp; omega)) (Nat.le_of_ble_eq_true rfl) ?_)
      intro H6 hB6 hK6
      have h6 := h5.new h hK6 (by omega)
      refine seqNil ?_
      refine hF3 _ _ ?_; clear hF3
      refine wpSeq fun F7 hF7 => ?_
      refine wpRegion ?_
      refine seqQ rfl rfl (yLoadB hB6 rfl Try.underlying80 rfl Try.sizeOf80 rfl) ?_
      -- e slot None: store T80 t2 t23
      refine seqE0 rfl rfl (stepStoreB rfl (by kernel_rfl) rfl rfl rfl ((hB24.keep hK5 (by simp; omega)).keep hK6 (by simp; omega)) rfl ?_)
      intro H7 hB7 hK7
      have h7 := h6.new h hK7 (by omega)
      have hK := keepNew (keepNew (hKa.trans hK5) hK6 (by omega)) hK7 (by omega)
      refine seqNil ?_
      refine hF7 _ _ ?_; clear hF7
      -- ret
      refine wpRet (finR1 rfl (resC Try.underlying80 rfl (by kernel_rfl) rfl hB7) ?_)
      rcases hc5 with ⟨rfl, hp5⟩ | ⟨rfl, hp5⟩
      · refine RP.fail hK ?_ h7 ⟨⟨2, 0, ⟨bs.toArray⟩⟩, rfl⟩
        rw [prs_f]
        unfold pVal
        rw [hq1]
        simp only [Option.bind_some]
        rw [if_neg hn1]
        rw [prs_f] at hp5
        rw [hp5]
        rfl
      · rw [prs_f] at hp5
        have hle := pBytes_le hp5
        refine RP.good (a := ⟨2, 0, ⟨bs.toArray⟩⟩) hK ?_ h7 ⟨rfl, ⟨by show P64 2; unfold P64; omega, by show P64 0; unfold P64; omega, ?_⟩, ?_, .inr ⟨rfl, rfl⟩⟩
        · unfold pVal
          rw [hq1]
          simp only [Option.bind_some]
          rw [if_neg hn1]
          rw [hp5]
          rfl
        · show bs.toArray.size ≤ _
          simp
          omega
        · show bs.toArray.size ≤ _
          simp
          omega
  · skip
    have l4 := hB4.lt
    refine wpT rfl ?_
    refine wpSkip ?_
    refine hF3 _ _ ?_; clear hF3
    refine wpSeq fun F8 hF8 => ?_
    refine wpRegion ?_
    refine seqQ rfl rfl (yLoadB hB4 rfl Try.underlying80 rfl Try.sizeOf80 rfl) ?_
    -- e slot None: store T80 t2 t23
    refine seqE0 rfl rfl (stepStoreB rfl (by kernel_rfl) rfl rfl rfl hB24 rfl ?_)
    intro H7 hB7 hK7
    have h7 := h4.new h hK7 (by omega)
    have hK := keepNew hKa hK7 (by omega)
    refine seqNil ?_
    refine hF8 _ _ ?_; clear hF8
    -- ret
    refine wpRet (finR1 rfl (resC Try.underlying80 rfl (by kernel_rfl) rfl hB7) ?_)
    refine RP.fail hK ?_ h7 ⟨⟨n, 0, ⟨#[]⟩⟩, rfl⟩
    rcases hc1 with ⟨-, hp1, _⟩ | ⟨h', _⟩
    · cases f
      · rw [prs_f] at hp1 ⊢
        unfold pVal
        rw [hp1]
        rfl
      · rfl
    · cases h'
end Go.Proofs.Ytcfnmklbkhibgaa
