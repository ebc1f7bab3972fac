/- Package packet: round trips, acknowledgements, the document's example. -/
import Derived.Test.YtcfnmklbkhibgaaS4
namespace Go.Proofs.Ytcfnmklbkhibgaa
open Go.RowKit

set_option maxRecDepth 100000 in
theorem seqB_ok {n : Int} (h : seqB n = true) : P64 n := by
  unfold seqB at h
  simp only [decide_eq_true_eq] at h
  exact hdr_le h
set_option maxRecDepth 100000 in
theorem pVal_enc {v : PVal} (h : properB v = true) (h1 : In64 v.1) (h2 : In64 v.2.1) (r : List UInt8) : pVal (encV (toV v) ++ r) = some (toV v, r) := by
  obtain ⟨k, n, s⟩ := v
  unfold properB at h
  simp only [decide_eq_true_eq] at h
  unfold pVal encV toV
  rcases h with ⟨rfl, rfl⟩ | ⟨rfl, rfl, hs⟩
  · dsimp only
    rw [if_pos rfl, List.append_assoc, pBnd_enc h1 (show (1 : Int) ≤ 1 ∧ (1 : Int) ≤ 2 by decide), Option.bind_some, if_pos rfl, rdI_enc h2]
    rfl
  · dsimp only at hs ⊢
    have hl : s.data.toList.length = s.size := rfl
    rw [if_neg (show ¬ ((2 : Int) = 1) by decide), if_pos rfl, List.append_assoc, pBnd_enc h1 (show (1 : Int) ≤ 2 ∧ (2 : Int) ≤ 2 by decide), Option.bind_some, if_neg (show ¬ ((2 : Int) = 1) by decide), pBytes_enc (by omega) (by omega)]
    rfl
set_option maxRecDepth 100000 in
theorem hdrs_ok {p : Pk} (hf : FewOk p) : ∀ n ∈ hdrs p, P64 n := by
  intro n hn
  unfold hdrs at hn
  simp only [List.mem_cons, List.not_mem_nil, or_false] at hn
  rcases hn with h | h | h | h | h | h | h <;> subst h
  · exact hdr_le hf.h0
  · exact hdr_le hf.h1
  · exact hdr_le hf.h2
  · exact hdr_le hf.h3
  · exact hdr_le hf.h4
  · exact hdr_le hf.h5
  · exact hdr_le hf.h6
/-- The numbers of a packet's values fit. -/
def N64 (p : Pk) : Prop := ∀ v ∈ p.vals, In64 v.1 ∧ In64 v.2.1
set_option maxRecDepth 100000 in
theorem parse_enc {p : Pk} (hf : FewOk p) (h64 : N64 p) : parse (encPk p) = some p := by
  have hv4 := hf.vl
  have hc6 := hf.cl
  unfold parse encPk
  have e1 : pN rdI 7 ((hdrs p).flatMap encI ++ encVals (p.vals.map toV) ++ encInts p.clk) = some (hdrs p, encVals (p.vals.map toV) ++ (encInts p.clk ++ [])) := by
    rw [List.append_assoc, List.append_nil]
    exact pN_enc (p := rdI) (e := encI) _ (hdrs p) (fun x hx r => rdI_enc (hdrs_ok hf x hx) r)
  have e2 : pList pVal 4 (encVals (p.vals.map toV) ++ (encInts p.clk ++ [])) = some (p.vals.map toV, encInts p.clk ++ []) :=
    pList_enc (e := encV) (by rw [List.length_map]; omega) (by rw [List.length_map]; omega) (fun x hx r => by
      obtain ⟨v, hv, rfl⟩ := List.mem_map.1 hx
      exact pVal_enc (hf.vs v hv) (h64 v hv).1 (h64 v hv).2 r) _
  have e3 : pList rdI 6 (encInts p.clk ++ []) = some (p.clk, []) :=
    pList_enc (e := encI) (by omega) (by omega) (fun x hx r => rdI_enc (seqB_ok (hf.cs x hx)) r) []
  rw [e1, Option.bind_some]
  dsimp only
  rw [e2, Option.bind_some]
  dsimp only
  rw [e3, Option.bind_some]
  dsimp only
  rw [if_pos rfl]
  unfold mkPk
  rw [from_to]
  rfl
set_option maxRecDepth 100000 in
theorem encP_valid {p : Pk} (h : ValidP p) : encP p = (0, sealed (encPk p)) := if_pos h
set_option maxRecDepth 100000 in
theorem encP_bad {p : Pk} (h : ¬ ValidP p) : encP p = (1, []) := if_neg h
set_option maxRecDepth 100000 in
/-- What is encoded is decoded. -/
theorem dec_enc {p : Pk} (h : ValidP p) (h64 : N64 p) : decP (encP p).2 = (0, p) := by
  rw [encP_valid h]
  dsimp only
  unfold decP
  rw [opened_sealed]
  dsimp only
  rw [if_neg (by decide), parse_enc h.few h64]
  dsimp only
  rw [if_pos h]
set_option maxRecDepth 100000 in
theorem encP_len {p : Pk} (h : ValidP p) : (encP p).2.length = (encPk p).length + 8 := by
  rw [encP_valid h]
  unfold sealed
  rw [List.length_append]
  rfl
set_option maxRecDepth 100000 in
theorem encPk_len {p : Pk} (h : ValidP p) (hv : ∀ v ∈ p.vals, (encV (toV v)).length ≤ 140) : 0 < (encPk p).length ∧ (encPk p).length ≤ 5000 := by
  have hf := h.few
  have hv4 := hf.vl
  have hc6 := hf.cl
  have h1 := flat_le encI 10 (hdrs p) (fun y hy => encI_length (hdrs_ok hf y hy))
  have h2 := flat_le encV 140 (p.vals.map toV) (fun y hy => by obtain ⟨v, hv', rfl⟩ := List.mem_map.1 hy; exact hv v hv')
  have h3 := flat_le encI 10 p.clk (fun y hy => encI_length (seqB_ok (hf.cs y hy)))
  have e1 := encI_length (P64_len (show (p.vals.map toV).length ≤ 1000000 by rw [List.length_map]; omega))
  have e2 := encI_length (P64_len (show p.clk.length ≤ 1000000 by omega))
  have e0 := List.length_pos_iff.2 (encI_ne ((p.vals.map toV).length : Int))
  have h7 : (hdrs p).length = 7 := rfl
  rw [List.length_map] at h2 e1 e0
  unfold encPk encVals encInts
  simp only [List.length_append, List.length_map]
  constructor <;> omega
set_option maxRecDepth 100000 in
theorem encV_140 {v : PVal} (h1 : In64 v.1) (h2 : In64 v.2.1) (h3 : v.2.2.size ≤ 100) : (encV (toV v)).length ≤ 140 := by
  have e1 := encI_length (n := v.1) h1
  have e2 := encI_length (n := v.2.1) h2
  have e3 := encI_length (P64_len (show v.2.2.size ≤ 1000000 by omega))
  unfold encV toV
  dsimp only
  rw [List.length_append]
  split
  · omega
  · split
    · unfold encBytes
      rw [List.length_append]
      change _ + ((encI (v.2.2.size : Int)).length + v.2.2.size) ≤ _
      omega
    · simp
      omega
/-- The acknowledgement. -/
def ackP (p : Pk) : Int × Pk := if p.kind = 1 ∧ ValidP p then (0, ⟨2, p.session, 0, p.src, p.dst, p.seq, 0, [], []⟩) else (1, pk0)
set_option maxRecDepth 100000 in
theorem AckOf_c (p : Pk) (A B : Option Addr) (ca cb : Nat) (H : Heap) (hA : Rd eVal H A p.vals) (hB : Rd eInt H B p.clk) :
    CallsH Try.prog 56 [.agg (pkC p A ca B cb).toArray] H fun v H' => v = .tuple #[.agg (pkC (ackP p).2 none 0 none 0).toArray, .int .i64 (ackP p).1] ∧ Ext H H' := by
  refine callsH_of Try.func56 rfl Try.ntmps56 (Nat.le_of_ble_eq_true rfl) ?_
  refine wpSeq fun F1 hF1 => ?_
  refine wpRegion ?_
  refine seqN rfl rfl (nBoxA rfl rfl) (fun g1 H1 hx1 hB1 hg1 hl1 => ?_)
  refine seqN rfl rfl (nAlloc rfl Try.zeroValue27 rfl) (fun g2 H2 hx2 hB2 hg2 hl2 => ?_)
  refine seqQ rfl rfl (yAssign (v := .int _ _) rfl rfl) ?_
  refine seqNil ?_
  refine hF1 _ _ ?_; clear hF1
  refine wpSeq fun F2 hF2 => ?_
  refine wpSeq fun F3 hF3 => ?_
  refine wpRegion ?_
  refine seqQ rfl rfl (yFieldAddr rfl Try.underlying27 rfl Try.sizeOf3 rfl rfl) ?_
  refine seqQ rfl rfl (yLoad rfl Try.underlying3 rfl rfl ((hB1.ext hx2).cell rfl)) ?_
  refine seqQ rfl rfl (yNeq rfl rfl rfl) ?_
  -- guard t7
  by_cases hk : p.kind = 1
  · skip
    have hB12 := hB1.ext hx2
    have hE := hx1.trans hx2
    have s1 := hx1.size
    refine seqGB rfl rfl rfl rfl (fun hk' => ?_) (fun hk' => ?_)
    · skip
      simp [hk] at hk'
    · skip
      refine seqQ rfl rfl (yLoadB hB12 rfl Try.underlying27 rfl Try.sizeOf27 rfl) ?_
      -- e slot 9: call F30<farandole/packet.Valid> t8
      refine seqE rfl rfl (stepCall rfl Try.call30 rfl ?_)
      refine (pkValid_c p A B ca cb H2 (hA.ext hE) (hB.ext hE)).mono ?_
      rintro v H3 ⟨rfl, x3⟩
      have hB23 := hB2.ext x3
      have hB13 := hB12.ext x3
      have s3 := x3.size
      refine seqQ rfl rfl (yNot rfl rfl) ?_
      refine seqQ rfl rfl (yPickF (v := .bool _) rfl rfl rfl) ?_
      refine seqNil ?_
      refine hF3 _ _ ?_; clear hF3
      -- if t11
      refine wpCond rfl (fun hv => ?_) (fun hv => ?_)
      · skip
        have hv : ¬ ValidP p := by simpa using hv
        refine wpSeq fun F4 hF4 => ?_
        refine wpRegion ?_
        refine seqQ rfl rfl (yBuild (pl := [(0, 1), (1, 1), (2, 1), (3, 1), (4, 1), (5, 1), (6, 1), (7, 1), (8, 1)]) (vs := []) rfl Try.underlying27 Try.zeroValue27 rfl (by unfold Places; kernel_rfl) rfl rfl) ?_
        -- e slot None: store T27 t2 t12
        refine seqE0 rfl rfl (stepStoreB rfl (by kernel_rfl) rfl rfl rfl hB23 rfl ?_)
        intro H4 hB4 hK4
        refine seqQ rfl rfl (yAssign (v := .int _ _) rfl rfl) ?_
        refine seqNil ?_
        refine hF4 _ _ ?_; clear hF4
        -- ret
        refine wpRet (finR2 rfl (resC Try.underlying27 rfl (by kernel_rfl) rfl hB4) (resT (v := .int _ _) rfl) ?_)
        have e : ackP p = (1, pk0) := if_neg (fun h => hv h.2)
        rw [e]
        exact ⟨rfl, (hE.trans x3).mine hK4 (by simp; omega)⟩
      · skip
        have hv : ValidP p := by simpa using hv
        refine wpSkip ?_
        refine hF2 _ _ ?_; clear hF2
        refine wpSeq fun F5 hF5 => ?_
        refine wpRegion ?_
        refine seqQ rfl rfl (yFieldAddr rfl Try.underlying27 rfl Try.sizeOf3 rfl rfl) ?_
        refine seqQ rfl rfl (yLoad rfl Try.underlying3 rfl rfl (hB13.cell rfl)) ?_
        refine seqQ rfl rfl (yFieldAddr rfl Try.underlying27 rfl Try.sizeOf3 rfl rfl) ?_
        refine seqQ rfl rfl (yLoad rfl Try.underlying3 rfl rfl (hB13.cell rfl)) ?_
        refine seqQ rfl rfl (yFieldAddr rfl Try.underlying27 rfl Try.sizeOf3 rfl rfl) ?_
        refine seqQ rfl rfl (yLoad rfl Try.underlying3 rfl rfl (hB13.cell rfl)) ?_
        refine seqQ rfl rfl (yFieldAddr rfl Try.underlying27 rfl Try.sizeOf3 rfl rfl) ?_
        refine seqQ rfl rfl (yLoad rfl Try.underlying3 rfl rfl (hB13.cell rfl)) ?_
        refine seqQ rfl rfl (yBuild (pl := [(0, 1), (1, 1), (2, 1), (3, 1), (4, 1), (5, 1), (6, 1), (7, 1), (8, 1)]) (vs := [(0, .int _ _), (1, .int _ _), (3, .int _ _), (4, .int _ _), (5, .int _ _)]) rfl Try.underlying27 Try.zeroValue27 rfl (by unfold Places; kernel_rfl) rfl rfl) ?_
        -- e slot None: store T27 t2 t21
        refine seqE0 rfl rfl (stepStoreB rfl (by kernel_rfl) rfl rfl rfl hB23 rfl ?_)
        intro H4 hB4 hK4
        refine seqQ rfl rfl (yAssign (v := .int _ _) rfl rfl) ?_
        refine seqNil ?_
        refine hF5 _ _ ?_; clear hF5
        -- ret
        refine wpRet (finR2 rfl (resC Try.underlying27 rfl (by kernel_rfl) rfl hB4) (resT (v := .int _ _) rfl) ?_)
        have e : ackP p = (0, ⟨2, p.session, 0, p.src, p.dst, p.seq, 0, [], []⟩) := if_pos ⟨hk, hv⟩
        rw [e]
        exact ⟨rfl, (hE.trans x3).mine hK4 (by simp; omega)⟩
  · skip
    refine seqGB rfl rfl rfl rfl (fun hk' => ?_) (fun hk' => ?_)
    · skip
      refine seqU rfl rfl ?_
      refine seqU rfl rfl ?_
      refine seqU rfl rfl ?_
      refine seqQ rfl rfl (yPickT (v := .bool _) rfl rfl rfl) ?_
      refine seqNil ?_
      refine hF3 _ _ ?_; clear hF3
      -- if t11
      refine wpT rfl ?_
      refine wpSeq fun F6 hF6 => ?_
      refine wpRegion ?_
      refine seqQ rfl rfl (yBuild (pl := [(0, 1), (1, 1), (2, 1), (3, 1), (4, 1), (5, 1), (6, 1), (7, 1), (8, 1)]) (vs := []) rfl Try.underlying27 Try.zeroValue27 rfl (by unfold Places; kernel_rfl) rfl rfl) ?_
      -- e slot None: store T27 t2 t12
      refine seqE0 rfl rfl (stepStoreB rfl (by kernel_rfl) rfl rfl rfl hB2 rfl ?_)
      intro H4 hB4 hK4
      refine seqQ rfl rfl (yAssign (v := .int _ _) rfl rfl) ?_
      refine seqNil ?_
      refine hF6 _ _ ?_; clear hF6
      -- ret
      refine wpRet (finR2 rfl (resC Try.underlying27 rfl (by kernel_rfl) rfl hB4) (resT (v := .int _ _) rfl) ?_)
      have e : ackP p = (1, pk0) := if_neg (fun h => hk h.1)
      rw [e]
      have s1 := hx1.size
      exact ⟨rfl, (hx1.trans hx2).mine hK4 (by simp; omega)⟩
    · skip
      simp [hk] at hk'
end Go.Proofs.Ytcfnmklbkhibgaa
