/- Package packet: Decode. -/
import Derived.Test.YtcfnmklbkhibgaaS3
namespace Go.Proofs.Ytcfnmklbkhibgaa
open Go.RowKit

def fromV (v : Val) : PVal := (v.kind, v.n, v.s)
set_option maxRecDepth 100000 in
theorem to_from (l : List Val) : (l.map fromV).map toV = l := by
  rw [List.map_map]
  exact List.map_id _
set_option maxRecDepth 100000 in
theorem from_to (l : List PVal) : (l.map toV).map fromV = l := by
  rw [List.map_map]
  exact List.map_id _
set_option maxRecDepth 100000 in
theorem ownV {H : Heap} {e : TypeId} {b : Nat} {v : Value} {l : List Val} (h : Own eWV e H b v l) : Own eVal e H b v (l.map fromV) := by
  have h2 := flatV (l.map fromV)
  rw [to_from] at h2
  unfold Own at h ⊢
  rw [List.length_map, ← h2]
  exact h
set_option maxRecDepth 100000 in
theorem pN_snoc {α : Type} {p : List UInt8 → Option (α × List UInt8)} : ∀ (n : Nat) (b : List UInt8), pN p (n + 1) b = (pN p n b).bind fun x => (p x.2).map fun y => (x.1 ++ [y.1], y.2)
  | 0, b => by
    simp only [pN, Option.bind_some]
    cases p b <;> rfl
  | n + 1, b => by
    rw [pN]
    cases h : p b with
    | none => simp [pN, h]
    | some x =>
      simp only [Option.bind_some]
      rw [pN_snoc n x.2, show pN p (n + 1) b = (pN p n x.2).map (fun y => (x.1 :: y.1, y.2)) from by rw [pN, h]; rfl]
      cases h2 : pN p n x.2 with
      | none => simp
      | some y =>
        simp only [Option.bind_some, Option.map_some]
        cases p y.2 <;> simp
def mkPk (h : List Int) (v : List Val) (c : List Int) : Pk := ⟨h.getD 0 0, h.getD 1 0, h.getD 2 0, h.getD 3 0, h.getD 4 0, h.getD 5 0, h.getD 6 0, v.map fromV, c⟩
def parse (D : List UInt8) : Option Pk := (pN rdI 7 D).bind fun h => (pList pVal 4 h.2).bind fun v => (pList rdI 6 v.2).bind fun c => if c.2 = [] then some (mkPk h.1 v.1 c.1) else none
def decP (b : List UInt8) : Int × Pk := if (opened b).1 ≠ 0 then ((opened b).1, pk0) else match parse (opened b).2 with
  | some p => if ValidP p then (0, p) else (4, pk0)
  | none => (4, pk0)
def ePtr : El Addr := El.of (fun p => .pointer (some p)) fun _ => rfl
def ptrs (g : Nat) : List Addr := (List.range 7).map fun k => (⟨g, 0, none⟩ : Addr).add k
def hcells (hs : List Int) (k : Nat) : List Value := hs.map (Value.int .i64) ++ (List.replicate (7 - k) (Value.int .i64 0) ++ [.slice none 0 0, .slice none 0 0])
set_option maxRecDepth 100000 in
theorem hcells_len {hs : List Int} {k : Nat} (h : hs.length = k) (hk : k ≤ 7) : (hcells hs k).length = 9 := by
  unfold hcells
  simp
  omega
set_option maxRecDepth 100000 in
theorem hcells_set {hs : List Int} {k : Nat} (h : hs.length = k) (hk : k < 7) (a : Int) : (hcells hs k).set k (.int .i64 a) = hcells (hs ++ [a]) (k + 1) := by
  unfold hcells
  rw [List.set_append_right _ _ (by simp; omega)]
  have e1 : k - (hs.map (Value.int .i64)).length = 0 := by simp; omega
  have e2 : List.replicate (7 - k) (Value.int .i64 0) = Value.int .i64 0 :: List.replicate (7 - (k + 1)) (Value.int .i64 0) := by
    rw [show 7 - k = (7 - (k + 1)) + 1 by omega]
    rfl
  rw [e1, e2]
  simp
/-- The header that is being read. -/
def Hdr7 (D : List UInt8) (k : Nat) (hs : List Int) (k' : Nat) (f : Bool) : Prop := (f = false ∧ pN rdI k D = some (hs, D.drop k')) ∨ (f = true ∧ pN rdI k D = none)
set_option maxRecDepth 100000 in
theorem hdr7_step {D : List UInt8} {k : Nat} {hs : List Int} {k' : Nat} {f : Bool} {g : Nat} {B : Option Addr} {cB : Nat} {H H' : Heap} {v : Value} (h : Hdr7 D k hs k' f) (hp : PP rdI VI (.int .i64 0) g B cB D k' f H v H') :
    Keep [g] H H' ∧ ∃ a k2 f2, v = .int .i64 a ∧ Rdr H' g B cB D k2 f2 ∧ Hdr7 D (k + 1) (hs ++ [a]) k2 f2 := by
  obtain ⟨hK, ⟨a, k2, h1, h2, h3⟩ | ⟨h1, h2, h3⟩⟩ := hp
  · obtain ⟨rfl, h1r⟩ := prs_ff h1
    clear h1
    refine ⟨hK, a, k2, false, h3.1, h2, .inl ⟨rfl, ?_⟩⟩
    rcases h with ⟨-, h⟩ | ⟨h, -⟩
    · rw [pN_snoc, h]
      simp [h1r]
    · cases h
  · refine ⟨hK, 0, k', true, h3, h2, .inr ⟨rfl, ?_⟩⟩
    rw [pN_snoc]
    rcases h with ⟨rfl, h⟩ | ⟨-, h⟩
    · rw [prs_f] at h1
      rw [h]
      simp [h1]
    · rw [h]
      rfl
set_option maxRecDepth 100000 in
theorem PP.lstS {α : Type} {c : El α} {e : TypeId} {Q : α → Prop} {p : List UInt8 → Option (α × List UInt8)} {m : Int} {b0 g : Nat} {B : Option Addr} {cB : Nat} {D : List UInt8} {k : Nat} {f : Bool} {H H' : Heap} {v : Value} (h : PP (pList p m) (VL c e b0 Q) (.slice none 0 0) g B cB D k f H v H') :
    Keep [g] H H' ∧ ∃ l A ca f2 k2, v = .slice A (List.length (α := α) l) ca ∧ Rdr H' g B cB D k2 f2 ∧ ((f2 = false ∧ prs (pList p m) f D k = some (l, D.drop k2)) ∨ (f2 = true ∧ prs (pList p m) f D k = none)) ∧ Own c e H' b0 (.slice A l.length ca) l := by
  obtain ⟨hK, ⟨l, k', hc, hr, ho, -⟩ | ⟨hc, hr, rfl⟩⟩ := h
  · obtain ⟨A, ca, rfl, -⟩ := ho.form
    exact ⟨hK, l, A, ca, false, k', rfl, hr, .inl ⟨rfl, hc⟩, ho⟩
  · exact ⟨hK, [], none, 0, true, k, rfl, hr, .inr ⟨rfl, hc⟩, Own.nil _ _⟩
set_option maxRecDepth 100000 in
theorem parse_eq {D : List UInt8} {hs : List Int} {vs : List Val} {cs : List Int} {k1 k2 k3 : Nat} {f1 f2 f3 : Bool} (h1 : Hdr7 D 7 hs k1 f1) (h2 : (f2 = false ∧ prs (pList pVal 4) f1 D k1 = some (vs, D.drop k2)) ∨ (f2 = true ∧ prs (pList pVal 4) f1 D k1 = none))
    (h3 : (f3 = false ∧ prs (pList rdI 6) f2 D k2 = some (cs, D.drop k3)) ∨ (f3 = true ∧ prs (pList rdI 6) f2 D k2 = none)) : parse D = if f3 = true ∨ k3 < D.length then none else some (mkPk hs vs cs) := by
  unfold parse
  rcases h1 with ⟨rfl, h1⟩ | ⟨rfl, h1⟩
  · rw [h1, Option.bind_some]
    rcases h2 with ⟨rfl, h2⟩ | ⟨rfl, h2⟩
    · rw [prs_f] at h2
      dsimp only
      rw [h2, Option.bind_some]
      rcases h3 with ⟨rfl, h3⟩ | ⟨rfl, h3⟩
      · rw [prs_f] at h3
        dsimp only
        rw [h3, Option.bind_some]
        dsimp only
        by_cases hk : k3 < D.length
        · have hne : D.drop k3 ≠ [] := by
            intro e
            have := congrArg List.length e
            rw [List.length_drop] at this
            simp at this
            omega
          rw [if_neg hne, if_pos (.inr hk)]
        · rw [if_pos (List.drop_of_length_le (by omega)), if_neg (by simp; omega)]
      · rw [prs_f] at h3
        dsimp only
        rw [h3, if_pos (.inl rfl)]
        rfl
    · rw [prs_f] at h2
      dsimp only
      rw [h2]
      rcases h3 with ⟨rfl, h3⟩ | ⟨rfl, h3⟩
      · cases h3
      · rw [if_pos (.inl rfl)]
        rfl
  · rw [h1]
    rcases h2 with ⟨rfl, h2⟩ | ⟨rfl, h2⟩
    · cases h2
    · rcases h3 with ⟨rfl, h3⟩ | ⟨rfl, h3⟩
      · cases h3
      · rw [if_pos (.inl rfl)]
        rfl
set_option maxRecDepth 100000 in
theorem Decode_c (A : Option Addr) (ca : Nat) (b : List UInt8) (H : Heap) (hA : Rd eByte H A b) (hca : b.length ≤ ca) (hl : b.length ≤ 1000000) :
    CallsH Try.prog 55 [.slice A b.length ca] H fun v H' => ∃ B cb C cc, v = .tuple #[.agg (pkC (decP b).2 B cb C cc).toArray, .int .i64 (decP b).1] ∧ Own eVal 80 H' H.size (.slice B (decP b).2.vals.length cb) (decP b).2.vals ∧ Own eInt 3 H' H.size (.slice C (decP b).2.clk.length cc) (decP b).2.clk ∧ Ext H H' := by
  refine callsH_of Try.func55 rfl Try.ntmps55 (Nat.le_of_ble_eq_true rfl) ?_
  refine wpSeq fun F1 hF1 => ?_
  refine wpRegion ?_
  refine seqN rfl rfl (nAlloc rfl Try.zeroValue27 rfl) (fun g2 H2 hx2 hB2 hg2 hl2 => ?_)
  refine seqQ rfl rfl (yAssign (v := .int _ _) rfl rfl) ?_
  refine seqNil ?_
  refine hF1 _ _ ?_; clear hF1
  refine wpSeq fun F2 hF2 => ?_
  refine wpRegion ?_
  refine seqQ rfl rfl (yMove (v := .slice _ _ _) rfl rfl) ?_
  -- e slot 12: call F70<farandole/sum.Open> t11
  refine seqE rfl rfl (stepCall rfl Try.call70 rfl ?_)
  refine (Open_c A ca b H2 (hA.ext hx2) hca (by omega)).mono ?_
  rintro v H3 ⟨B0, c0, rfl, o3, x3⟩
  refine seqQ rfl rfl (yMove (v := .tuple _) rfl rfl) ?_
  refine seqQ rfl rfl (yExtract (v := .slice _ _ _) rfl rfl rfl) ?_
  refine seqQ rfl rfl (yExtract (v := .int _ _) rfl rfl rfl) ?_
  refine seqQ rfl rfl (yAssign (v := .slice _ _ _) rfl rfl) ?_
  refine seqQ rfl rfl (yAssign (v := .int _ _) rfl rfl) ?_
  refine seqNil ?_
  refine hF2 _ _ ?_; clear hF2
  refine wpSeq fun F3 hF3 => ?_
  refine wpSeq fun F4 hF4 => ?_
  refine wpRegion ?_
  refine seqQ rfl rfl (yMove (v := .int _ _) rfl rfl) ?_
  refine seqQ rfl rfl (yNeq rfl rfl rfl) ?_
  refine seqNil ?_
  refine hF4 _ _ ?_; clear hF4
  -- if t16
  have hB23 := hB2.ext x3
  have hE := hx2.trans x3
  have s2 := hx2.size
  have s3 := x3.size
  refine wpCond rfl (fun he => ?_) (fun he => ?_)
  · skip
    have he : (opened b).1 ≠ 0 := by simpa using he
    refine wpSeq fun F5 hF5 => ?_
    refine wpRegion ?_
    refine seqQ rfl rfl (yBuild (pl := [(0, 1), (1, 1), (2, 1), (3, 1), (4, 1), (5, 1), (6, 1), (7, 1), (8, 1)]) (vs := []) rfl Try.underlying27 Try.zeroValue27 rfl (by unfold Places; kernel_rfl) rfl rfl) ?_
    refine seqQ rfl rfl (yMove (v := .int _ _) rfl rfl) ?_
    -- e slot None: store T27 t2 t17
    refine seqE0 rfl rfl (stepStoreB rfl (by kernel_rfl) rfl rfl rfl hB23 rfl ?_)
    intro H4 hB4 hK4
    refine seqQ rfl rfl (yAssign (v := .int _ _) rfl rfl) ?_
    refine seqNil ?_
    refine hF5 _ _ ?_; clear hF5
    -- ret
    refine wpRet (finR2 rfl (resC Try.underlying27 rfl (by kernel_rfl) rfl hB4) (resT (v := .int _ _) rfl) ?_)
    have e : decP b = ((opened b).1, pk0) := if_pos he
    rw [e]
    exact ⟨none, 0, none, 0, rfl, Own.nil _ _, Own.nil _ _, hE.mine hK4 (by simp; omega)⟩
  · skip
    have he : ¬ (opened b).1 ≠ 0 := by simpa using he
    have e : decP b = (match parse (opened b).2 with | some p => if ValidP p then (0, p) else (4, pk0) | none => (4, pk0)) := if_neg he
    have hpl : (opened b).2.length ≤ 1000000 := by
      unfold opened
      split
      · simp
      · split
        · simp
          omega
        · simp
    obtain ⟨D, hD⟩ : ∃ D, D = (opened b).2 := ⟨_, rfl⟩
    rw [← hD] at o3 e hpl
    rw [← hD]
    refine wpSkip ?_
    refine hF3 _ _ ?_; clear hF3
    refine wpSeq fun F6 hF6 => ?_
    refine wpRegion ?_
    refine seqQ rfl rfl (yMove (v := .slice _ _ _) rfl rfl) ?_
    -- e slot 20: call F71<farandole/wire.New> t19
    refine seqE rfl rfl (stepCall rfl Try.call71 rfl ?_)
    refine (New_c B0 c0 D H3 (Own.rd o3).2 hpl).mono ?_
    rintro v H4 ⟨x4, g, Bd, cd, rfl, hg4, q, -⟩
    have s4 := x4.size
    have lg := q.blk.lt
    clear o3
    refine seqQ rfl rfl (yAssign (v := .pointer _) rfl rfl) ?_
    refine seqNil ?_
    refine hF6 _ _ ?_; clear hF6
    refine wpSeq fun F7 hF7 => ?_
    refine wpRegion ?_
    refine seqN rfl rfl (nAlloc rfl Try.zeroValue27 rfl) (fun g7 H7 hx7 hB7 hg7 hl7 => ?_)
    refine seqNil ?_
    refine hF7 _ _ ?_; clear hF7
    refine wpSeq fun F8 hF8 => ?_
    refine wpSeq fun F9 hF9 => ?_
    refine wpRegion ?_
    refine seqQ rfl rfl (yFieldAddr rfl Try.underlying27 rfl Try.sizeOf3 rfl rfl) ?_
    refine seqQ rfl rfl (yFieldAddr rfl Try.underlying27 rfl Try.sizeOf3 rfl rfl) ?_
    refine seqQ rfl rfl (yFieldAddr rfl Try.underlying27 rfl Try.sizeOf3 rfl rfl) ?_
    refine seqQ rfl rfl (yFieldAddr rfl Try.underlying27 rfl Try.sizeOf3 rfl rfl) ?_
    refine seqQ rfl rfl (yFieldAddr rfl Try.underlying27 rfl Try.sizeOf3 rfl rfl) ?_
    refine seqQ rfl rfl (yFieldAddr rfl Try.underlying27 rfl Try.sizeOf3 rfl rfl) ?_
    refine seqQ rfl rfl (yFieldAddr rfl Try.underlying27 rfl Try.sizeOf3 rfl rfl) ?_
    refine seqN rfl rfl (nBuildSlice (vs := [.pointer _, .pointer _, .pointer _, .pointer _, .pointer _, .pointer _, .pointer _]) rfl Try.underlying113 Try.sizeOf112 Try.zeroValue112 rfl rfl rfl rfl) (fun g28 H28 hx28 hB28 hg28 hl28 => ?_)
    refine seqQ rfl rfl (yLen rfl Try.underlying113 rfl) ?_
    refine seqQ rfl rfl (yMove (v := .int _ _) rfl rfl) ?_
    refine seqNil ?_
    refine hF9 _ _ ?_; clear hF9
    -- loop
    have s7 := hx7.size
    have s28 := hx28.size
    have m4 := q.blt
    have rP : Rd ePtr H28 (some ⟨g28, 0, none⟩) (ptrs g7) := fun _ => ⟨_, rfl, fun j u hu => hB28.cell hu⟩
    have hplen : (ptrs g7).length = 7 := rfl
    refine wpBlock ?_
    refine wpLoopS [9, 30, 31, 32, 33, 34, 35, 36, 37, 38] (fun k : Nat => [(30, .int .i64 k)]) (fun k H' => k ≤ 7 ∧ Ext H H' ∧ H28.size ≤ H'.size ∧ Rd ePtr H' (some ⟨g28, 0, none⟩) (ptrs g7) ∧ Blk H' g2 [.int .i64 0, .int .i64 0, .int .i64 0, .int .i64 0, .int .i64 0, .int .i64 0, .int .i64 0, .slice none 0 0, .slice none 0 0] 27 ∧ ∃ hs k' f, hs.length = k ∧ Blk H' g7 (hcells hs k) 27 ∧ Rdr H' g Bd cd D k' f ∧ Hdr7 D k hs k' f) (fun k => 7 - k) 0 ⟨rfl, trivial⟩ ⟨Nat.zero_le _, ((hE.trans x4).trans hx7).trans hx28, Nat.le_refl _, rP, ((hB23.ext x4).ext hx7).ext hx28, [], 0, false, rfl, hB7.ext hx28, (q.ext hx7).ext hx28, .inl ⟨rfl, rfl⟩⟩ ?_
    clear hE rP q hB23 hB2 hB7 hB28
    rintro k J Hk ⟨hk, hE, hs28, rP, h2, hs, k', f, hhs, h7, q, hh⟩
    have sk := hE.size
    refine wpSeq fun F10 hF10 => ?_
    refine wpRegion ?_
    refine seqQ rfl rfl (yLss rfl rfl rfl) ?_
    refine seqNil ?_
    refine hF10 _ _ ?_; clear hF10
    refine wpSeq fun F11 hF11 => ?_
    -- if t31
    refine wpIf rfl (fun hlt => ?_) (fun hlt => ?_)
    · skip
      have hk : k < 7 := by omega
      obtain ⟨p, ep, hp⟩ := rP.at1 (k := k) hk
      obtain rfl := Option.some.inj ep
      have hp' : cellH Hk ((⟨g28, 0, none⟩ : Addr).add k) = some (.pointer (some ((⟨g7, 0, none⟩ : Addr).add k))) := by
        rw [hp]
        simp [ptrs]
      refine wpSkip ?_
      refine hF11 _ _ ?_; clear hF11
      refine wpSeq fun F12 hF12 => ?_
      refine wpBlock ?_
      refine wpSeq fun F13 hF13 => ?_
      refine wpRegion ?_
      refine seqQ rfl rfl (yIdx1 rfl Try.underlying113 Try.sizeOf112 rfl rfl rfl hk) ?_
      refine seqQ rfl rfl (yLoad rfl Try.underlying112 rfl rfl hp') ?_
      refine seqQ rfl rfl (yAssign (v := .pointer _) rfl rfl) ?_
      refine seqNil ?_
      refine hF13 _ _ ?_; clear hF13
      refine wpRegion ?_
      refine seqQ rfl rfl (yMove (v := .pointer _) rfl rfl) ?_
      refine seqQ rfl rfl (yMove (v := .pointer _) rfl rfl) ?_
      -- e slot 36: call F72<(*farandole/wire.Reader).Int> t35
      refine seqE rfl rfl (stepCall rfl Try.call72 rfl ?_)
      refine (Int_c g Bd cd D k' f Hk q).mono ?_
      rintro v H5 hpp
      obtain ⟨hK5, a, k2, f2, rfl, q5, hh5⟩ := hdr7_step hh hpp
      have s5 := hK5.size
      have h75 := h7.keep hK5 (by simp; omega)
      refine seqQ rfl rfl (yNilCheck rfl rfl) ?_
      -- e slot None: store T3 t37 t36
      refine seqE0 rfl rfl (stepStore rfl Try.sizeOf3 rfl rfl rfl rfl h75 (by rw [hcells_len hhs (by omega)]; omega) ?_)
      intro H6 hB6 hK6
      have s6 := hK6.size
      replace hB6 : Blk H6 g7 (hcells (hs ++ [a]) (k + 1)) 27 := by rw [← hcells_set hhs hk a]; exact hB6
      refine seqNil ?_
      refine hF12 _ _ ?_; clear hF12
      refine wpRegion ?_
      refine seqQ rfl rfl (yAdd rfl rfl rfl (by unfold In64; omega)) ?_
      refine seqQ rfl rfl (yMove (v := .int _ _) rfl rfl) ?_
      refine seqNil ?_
      -- end loop
      exact loopEnd (k + 1) (by repeat (first | (with_reducible exact Agree.refl _ _) | refine Agree.upd ?_ rfl | refine Agree.over ?_ rfl)) (by omega) ⟨rfl, trivial⟩ ⟨hk, (hE.mine hK5 (by simp; omega)).mine hK6 (by simp; omega), by omega, (rP.keep hK5 (by intro p e; cases e; simp; omega)).keep hK6 (by intro p e; cases e; simp; omega), (h2.keep hK5 (by simp; omega)).keep hK6 (by simp; omega), hs ++ [a], k2, f2, by simp; omega, hB6, q5.other hK6 (by omega) (fun p e hn => by have := m4 p e hn; omega), hh5⟩
    · skip
      obtain rfl : k = 7 := by omega
      obtain ⟨a0, a1, a2, a3, a4, a5, a6, rfl⟩ : ∃ a0 a1 a2 a3 a4 a5 a6, hs = [a0, a1, a2, a3, a4, a5, a6] := by
        match hs, hhs with
        | [a0, a1, a2, a3, a4, a5, a6], _ => exact ⟨_, _, _, _, _, _, _, rfl⟩
      clear rP hhs
      replace h7 : Blk Hk g7 [.int .i64 a0, .int .i64 a1, .int .i64 a2, .int .i64 a3, .int .i64 a4, .int .i64 a5, .int .i64 a6, .slice none 0 0, .slice none 0 0] 27 := h7
      have l7 := h7.lt
      refine wpExit ?_
      refine hF8 _ _ ?_; clear hF8
      refine wpSeq fun F14 hF14 => ?_
      refine wpRegion ?_
      refine seqQ rfl rfl (yMove (v := .pointer _) rfl rfl) ?_
      -- e slot 40: call F73<(*farandole/wire.Reader).Values> t39 [i:i64:4]
      refine seqE rfl rfl (stepCall rfl Try.call73 rfl ?_)
      refine (Values_c g Bd cd D k' f 4 Hk q (by decide)).mono ?_
      rintro v H5 hp5
      obtain ⟨hK5, vs, Av, cv, f2, k2, rfl, q5, hh5, o5⟩ := PP.lstS hp5
      have s5 := hK5.size
      clear hp5
      have m5 := q5.blt
      have h75 := h7.keep hK5 (by simp; omega)
      have h25 := h2.keep hK5 (by simp; omega)
      have hE5 := hE.mine hK5 (by simp; omega)
      clear h7 h2 hE q
      refine seqQ rfl rfl (yMove (v := .pointer _) rfl rfl) ?_
      -- e slot 42: call F74<(*farandole/wire.Reader).Ints> t41 [i:i64:6]
      refine seqE rfl rfl (stepCall rfl Try.call74 rfl ?_)
      refine (Ints_c g Bd cd D k2 f2 6 H5 q5 (by decide)).mono ?_
      rintro v H6 hp6
      obtain ⟨hK6, cs, Ac, cc, f3, k3, rfl, q6, hh6, o6⟩ := PP.lstS hp6
      have s6 := hK6.size
      clear hp6
      have h76 := h75.keep hK6 (by simp; omega)
      have h26 := h25.keep hK6 (by simp; omega)
      have hE6 := hE5.mine hK6 (by simp; omega)
      have o56 := o5.keep hK6 (fun b hb => by have := (o5.lt b hb).1; simp; omega)
      clear h75 h25 hE5 q5 o5
      refine seqQ rfl rfl (yFieldAddr rfl Try.underlying27 rfl Try.sizeOf24 rfl rfl) ?_
      -- e slot None: store T24 t43 t40
      refine seqE0 rfl rfl (stepStore rfl Try.sizeOf24 rfl rfl rfl rfl h76 (Nat.le_of_ble_eq_true rfl) ?_)
      intro H8 hB8 hK8
      refine seqQ rfl rfl (yFieldAddr rfl Try.underlying27 rfl Try.sizeOf25 rfl rfl) ?_
      -- e slot None: store T25 t44 t42
      refine seqE0 rfl rfl (stepStore rfl Try.sizeOf25 rfl rfl rfl rfl hB8 (Nat.le_of_ble_eq_true rfl) ?_)
      intro H9 hB9 hK9
      have s8 := hK8.size
      have s9 := hK9.size
      have q9 : Rdr H9 g Bd cd D k3 f3 := (q6.other hK8 (by omega) (fun p e hn => by have := m4 p e hn; omega)).other hK9 (by omega) (fun p e hn => by have := m4 p e hn; omega)
      have h29 := (h26.keep hK8 (by simp; omega)).keep hK9 (by simp; omega)
      have hE9 := (hE6.mine hK8 (by simp; omega)).mine hK9 (by simp; omega)
      have o59 := (o56.keep hK8 (fun b hb => by have := (o56.lt b hb).1; simp; omega)).keep hK9 (fun b hb => by have := (o56.lt b hb).1; simp; omega)
      have o69 := (o6.keep hK8 (fun b hb => by have := (o6.lt b hb).1; simp; omega)).keep hK9 (fun b hb => by have := (o6.lt b hb).1; simp; omega)
      have hpq := parse_eq hh hh5 hh6
      have hB9' : Blk H9 g7 (pkC (mkPk [a0, a1, a2, a3, a4, a5, a6] vs cs) Av cv Ac cc) 27 := by
        show Blk H9 g7 [.int .i64 a0, .int .i64 a1, .int .i64 a2, .int .i64 a3, .int .i64 a4, .int .i64 a5, .int .i64 a6, .slice Av (vs.map fromV).length cv, .slice Ac cs.length cc] _
        rw [List.length_map]
        exact hB9
      have ov : Own eVal 80 H9 Hk.size (.slice Av (vs.map fromV).length cv) (vs.map fromV) := by
        rw [List.length_map]
        exact ownV o59
      clear h76 h26 hE6 hB8 hK8 hK9 q6 o56 o6 hh hh5 hh6 hK5 hK6 o59 hB9
      generalize hP : mkPk [a0, a1, a2, a3, a4, a5, a6] vs cs = P at hpq hB9'
      refine seqNil ?_
      refine hF14 _ _ ?_; clear hF14
      refine wpSeq fun F15 hF15 => ?_
      refine wpSeq fun F16 hF16 => ?_
      refine wpRegion ?_
      refine seqQ rfl rfl (yMove (v := .pointer _) rfl rfl) ?_
      -- e slot 46: call F75<(*farandole/wire.Reader).End> t45
      refine seqE rfl rfl (stepCall rfl Try.call75 rfl ?_)
      refine (End_c g Bd cd D k3 f3 H9 q9).mono ?_
      rintro v Hz ⟨rfl, ez⟩
      obtain rfl := ez.symm
      clear ez
      by_cases hc : f3 = true ∨ k3 < D.length
      · skip
        rw [if_pos hc] at hpq ⊢
        rw [hpq] at e
        dsimp only at e
        refine seqQ rfl rfl (yNeq rfl rfl rfl) ?_
        refine seqQ rfl rfl (yMove (v := .bool true) rfl rfl) ?_
        refine seqU rfl rfl ?_
        refine seqU rfl rfl ?_
        refine seqU rfl rfl ?_
        refine seqQ rfl rfl (yPickT (v := .bool _) rfl rfl rfl) ?_
        refine seqNil ?_
        refine hF16 _ _ ?_; clear hF16
        -- if t52
        refine wpT rfl ?_
        refine wpSeq fun F17 hF17 => ?_
        refine wpRegion ?_
        refine seqQ rfl rfl (yBuild (pl := [(0, 1), (1, 1), (2, 1), (3, 1), (4, 1), (5, 1), (6, 1), (7, 1), (8, 1)]) (vs := []) rfl Try.underlying27 Try.zeroValue27 rfl (by unfold Places; kernel_rfl) rfl rfl) ?_
        -- e slot None: store T27 t2 t53
        refine seqE0 rfl rfl (stepStoreB rfl (by kernel_rfl) rfl rfl rfl h29 rfl ?_)
        intro Ha hBa hKa
        refine seqQ rfl rfl (yAssign (v := .int _ _) rfl rfl) ?_
        refine seqNil ?_
        refine hF17 _ _ ?_; clear hF17
        -- ret
        refine wpRet (finR2 rfl (resC Try.underlying27 rfl (by kernel_rfl) rfl hBa) (resT (v := .int _ _) rfl) ?_)
        rw [e]
        exact ⟨none, 0, none, 0, rfl, Own.nil _ _, Own.nil _ _, hE9.mine hKa (by simp; omega)⟩
      · skip
        rw [if_neg hc] at hpq ⊢
        rw [hpq] at e
        dsimp only at e
        refine seqQ rfl rfl (yNeq rfl rfl rfl) ?_
        refine seqQ rfl rfl (yMove (v := .bool false) rfl rfl) ?_
        refine seqQ rfl rfl (yLoadB hB9' rfl Try.underlying27 rfl Try.sizeOf27 rfl) ?_
        -- e slot 50: call F30<farandole/packet.Valid> t49
        refine seqE rfl rfl (stepCall rfl Try.call30 rfl ?_)
        have hPv : P.vals = vs.map fromV := by rw [← hP]; rfl
        have hPc : P.clk = cs := by rw [← hP]; rfl
        rw [← hPv] at ov
        rw [← hPc] at o69
        refine (pkValid_c P Av Ac cv cc H9 (Own.rd ov).2 (Own.rd o69).2).mono ?_
        rintro v Ha ⟨rfl, xa⟩
        have sa := xa.size
        refine seqQ rfl rfl (yNot rfl rfl) ?_
        refine seqQ rfl rfl (yPickF (v := .bool _) rfl rfl rfl) ?_
        refine seqNil ?_
        refine hF16 _ _ ?_; clear hF16
        -- if t52
        refine wpCond rfl (fun hv => ?_) (fun hv => ?_)
        · skip
          have hv : ¬ ValidP P := by simpa using hv
          rw [if_neg hv] at e
          refine wpSeq fun F18 hF18 => ?_
          refine wpRegion ?_
          refine seqQ rfl rfl (yBuild (pl := [(0, 1), (1, 1), (2, 1), (3, 1), (4, 1), (5, 1), (6, 1), (7, 1), (8, 1)]) (vs := []) rfl Try.underlying27 Try.zeroValue27 rfl (by unfold Places; kernel_rfl) rfl rfl) ?_
          -- e slot None: store T27 t2 t53
          refine seqE0 rfl rfl (stepStoreB rfl (by kernel_rfl) rfl rfl rfl (h29.ext xa) rfl ?_)
          intro Hc hBc hKc
          refine seqQ rfl rfl (yAssign (v := .int _ _) rfl rfl) ?_
          refine seqNil ?_
          refine hF18 _ _ ?_; clear hF18
          -- ret
          refine wpRet (finR2 rfl (resC Try.underlying27 rfl (by kernel_rfl) rfl hBc) (resT (v := .int _ _) rfl) ?_)
          rw [e]
          exact ⟨none, 0, none, 0, rfl, Own.nil _ _, Own.nil _ _, (hE9.trans xa).mine hKc (by simp; omega)⟩
        · skip
          have hv : ValidP P := by simpa using hv
          rw [if_pos hv] at e
          refine wpSkip ?_
          refine hF15 _ _ ?_; clear hF15
          refine wpSeq fun F19 hF19 => ?_
          refine wpRegion ?_
          refine seqQ rfl rfl (yLoadB (hB9'.ext xa) rfl Try.underlying27 rfl Try.sizeOf27 rfl) ?_
          -- e slot None: store T27 t2 t54
          refine seqE0 rfl rfl (stepStoreB rfl (by kernel_rfl) rfl rfl rfl (h29.ext xa) rfl ?_)
          intro Hc hBc hKc
          refine seqQ rfl rfl (yAssign (v := .int _ _) rfl rfl) ?_
          refine seqNil ?_
          refine hF19 _ _ ?_; clear hF19
          -- ret
          refine wpRet (finR2 rfl (resC Try.underlying27 rfl (by kernel_rfl) rfl hBc) (resT (v := .int _ _) rfl) ?_)
          rw [e]
          exact ⟨Av, cv, Ac, cc, rfl, (((ov.ext xa).keep hKc (fun b hb => by have := (ov.lt b hb).1; simp; omega)).mono (by omega)), (((o69.ext xa).keep hKc (fun b hb => by have := (o69.lt b hb).1; simp; omega)).mono (by omega)), (hE9.trans xa).mine hKc (by simp; omega)⟩
end Go.Proofs.Ytcfnmklbkhibgaa
