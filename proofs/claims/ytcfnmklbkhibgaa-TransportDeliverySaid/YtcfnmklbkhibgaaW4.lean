/- Package wire: the reader: integer, bounded, boolean, bytes. -/
import Derived.Test.YtcfnmklbkhibgaaW3
namespace Go.Proofs.Ytcfnmklbkhibgaa
open Go.RowKit

/-- What a reader's method reads. -/
def prs {α : Type} (p : List UInt8 → Option (α × List UInt8)) (f : Bool) (D : List UInt8) (k : Nat) : Option (α × List UInt8) := bif f then none else p (D.drop k)
/-- What a reader's method leaves: what is read, V, or a failure, U. -/
def RP {α : Type} (p : List UInt8 → Option (α × List UInt8)) (V : Heap → α → Value → Prop) (U : Heap → Value → Prop) (g : Nat) (B : Option Addr) (cB : Nat) (D : List UInt8) (k : Nat) (f : Bool) (H : Heap) (v : Value) (H' : Heap) : Prop :=
  Keep [g] H H' ∧ ((∃ a r k', prs p f D k = some (a, r) ∧ D.drop k' = r ∧ Rdr H' g B cB D k' false ∧ V H' a v) ∨ (prs p f D k = none ∧ (∃ k', Rdr H' g B cB D k' true) ∧ U H' v))
def VI (_ : Heap) (n : Int) (v : Value) : Prop := v = .int .i64 n ∧ P64 n
def UI (_ : Heap) (v : Value) : Prop := ∃ z, v = .int .i64 z
section
variable {α : Type} {p : List UInt8 → Option (α × List UInt8)} {V : Heap → α → Value → Prop} {U : Heap → Value → Prop} {g : Nat} {B : Option Addr} {cB : Nat} {D : List UInt8} {k : Nat} {H H' : Heap} {v : Value}
set_option maxRecDepth 100000 in
theorem RP.fail {f : Bool} {k' : Nat} (hK : Keep [g] H H') (hp : prs p f D k = none) (hr : Rdr H' g B cB D k' true) (hu : U H' v) : RP p V U g B cB D k f H v H' := ⟨hK, .inr ⟨hp, ⟨k', hr⟩, hu⟩⟩
set_option maxRecDepth 100000 in
theorem RP.good {a : α} {k' : Nat} (hK : Keep [g] H H') (hp : p (D.drop k) = some (a, D.drop k')) (hr : Rdr H' g B cB D k' false) (hv : V H' a v) : RP p V U g B cB D k false H v H' := ⟨hK, .inl ⟨a, _, k', hp, rfl, hr, hv⟩⟩
end
set_option maxRecDepth 100000 in
theorem take1 {D : List UInt8} {k : Nat} (h : k < D.length) : (D.drop k).take 1 = [D[k]] := by
  rw [List.drop_eq_getElem_cons h]
  rfl
set_option maxRecDepth 100000 in
theorem RdM.one1 {M : List Nat} {H : Heap} {A : Option Addr} {c : UInt8} (h : RdM eByte M H A [c]) : ∃ p, A = some p ∧ cellH H (p.add 0) = some (.int .u8 (c.toNat : Int)) := by
  obtain ⟨p, e, hp⟩ := h.rd.at1 (k := 0) (by simp)
  exact ⟨p, e, hp⟩
set_option maxRecDepth 100000 in
theorem half {u : Nat} (h : u < 18446744073709551616) : IntKind.i64.wrap ((u : Int) / 2) = ((u / 2 : Nat) : Int) := by
  rw [IntWalk.i64_in _ (by omega)]
  omega
set_option maxRecDepth 100000 in
theorem low {u : Nat} (h : u < 18446744073709551616) : IntKind.i64.wrap (bits BinOp.and IntKind.u64 (u : Int) 1) = ((u % 2 : Nat) : Int) := by
  have h1 := u64_and_nat u 1 h (by omega)
  rw [Nat.and_one_is_mod] at h1
  have h1' : bits BinOp.and IntKind.u64 (u : Int) 1 = ((u % 2 : Nat) : Int) := h1
  rw [h1', IntWalk.i64_in _ (by omega)]
set_option maxRecDepth 100000 in
theorem unzig_bits' {u : Nat} (h : u < 18446744073709551616) : bits BinOp.xor IntKind.i64 ((u / 2 : Nat) : Int) (-((u % 2 : Nat) : Int)) = unzig u := by
  have h0 := unzig_bits h
  have h1 := u64_and_nat u 1 h (by omega)
  rw [Nat.and_one_is_mod] at h1
  have h1' : bits BinOp.and IntKind.u64 (u : Int) 1 = ((u % 2 : Nat) : Int) := h1
  have w1 : wrap64 ((u : Int) / 2) = ((u / 2 : Nat) : Int) := by rw [IntWalk.wrap64_in ((u : Int) / 2) (by omega)]; omega
  have w2 : wrap64 ((u % 2 : Nat) : Int) = ((u % 2 : Nat) : Int) := IntWalk.wrap64_in ((u % 2 : Nat) : Int) (by omega)
  have w3 : wrap64 (-((u % 2 : Nat) : Int)) = -((u % 2 : Nat) : Int) := IntWalk.wrap64_in (-((u % 2 : Nat) : Int)) (by omega)
  rw [h1', w1, w2, w3] at h0
  exact h0
set_option maxRecDepth 100000 in
theorem integer_c (g : Nat) (B : Option Addr) (cB : Nat) (D : List UInt8) (k : Nat) (f : Bool) (H : Heap) (h : Rdr H g B cB D k f) :
    CallsH Try.prog 90 [.pointer (some ⟨g, 0, none⟩)] H fun v H' => RP rdI VI UI g B cB D k f H v H' := by
  have hfew := h.few
  have hle := h.le
  refine callsH_of Try.func90 rfl Try.ntmps90 (Nat.le_of_ble_eq_true rfl) ?_
  refine wpSeq fun F1 hF1 => ?_
  refine wpRegion ?_
  refine seqQ rfl rfl (yAssign (v := .int _ _) rfl rfl) ?_
  refine seqNil ?_
  refine hF1 _ _ ?_; clear hF1
  refine wpSeq fun F2 hF2 => ?_
  refine wpRegion ?_
  refine seqQ rfl rfl (yAssign (v := .int _ _) rfl rfl) ?_
  refine seqNil ?_
  refine hF2 _ _ ?_; clear hF2
  refine wpSeq fun F3 hF3 => ?_
  refine wpSeq fun F4 hF4 => ?_
  refine wpRegion ?_
  refine seqQ rfl rfl (yMove (v := .int _ _) rfl rfl) ?_
  refine seqNil ?_
  refine hF4 _ _ ?_; clear hF4
  -- loop
  refine wpBlock ?_
  refine wpLoopS [2, 3, 4, 5, 6, 7, 8, 9, 10, 11, 12, 13, 14, 15, 16, 17, 18, 19, 20, 21, 22, 23, 24, 25, 26, 27, 28, 29, 30, 31, 32, 33, 34, 35, 36, 37, 38, 39, 40, 41, 42, 43, 44, 45, 46, 47, 48, 49, 50, 51, 52, 53, 54, 55, 56, 57, 58] (fun x : Nat × Nat => [(6, .int .i64 x.1), (3, .int .u64 x.2)]) (fun x H' => x.1 ≤ 10 ∧ Keep [g] H H' ∧ Rdr H' g B cB D (k + x.1) f ∧ (f = true → x.1 = 0) ∧ x.2 < 128 ^ x.1 ∧ (f = false → rdU 0 (D.drop k) = (rdU x.1 (D.drop (k + x.1))).map fun p => (x.2 + 128 ^ x.1 * p.1, p.2))) (fun x => 10 - x.1) (0, 0) ⟨rfl, rfl, trivial⟩ ⟨Nat.zero_le _, Keep.refl _ _, h, fun _ => rfl, by simp, fun _ => by simp⟩ ?_
  rintro ⟨i, acc⟩ J H1 ⟨hi, hK1, h1, h0, hacc, hrd⟩
  dsimp only at hi hK1 h1 h0 hacc hrd
  clear h
  refine wpSeq fun F5 hF5 => ?_
  refine wpRegion ?_
  refine seqQ rfl rfl (yLss rfl rfl rfl) ?_
  refine seqNil ?_
  refine hF5 _ _ ?_; clear hF5
  refine wpSeq fun F6 hF6 => ?_
  -- if t7
  refine wpIf rfl (fun hlt => ?_) (fun hlt => ?_)
  · skip
    have hi : i < 10 := by dsimp only at hlt; omega
    refine wpSkip ?_
    refine hF6 _ _ ?_; clear hF6
    refine wpSeq fun F7 hF7 => ?_
    refine wpBlock ?_
    refine wpSeq fun F8 hF8 => ?_
    refine wpRegion ?_
    refine seqQ rfl rfl (yMove (v := .int _ _) rfl rfl) ?_
    refine seqQ rfl rfl (yAssign (v := .int _ _) rfl rfl) ?_
    refine seqNil ?_
    refine hF8 _ _ ?_; clear hF8
    refine wpSeq fun F9 hF9 => ?_
    refine wpRegion ?_
    refine seqQ rfl rfl (yMove (v := .pointer _) rfl rfl) ?_
    -- e slot 10: call F103<(*farandole/wire.Reader).next> t9 [i:i64:1]
    refine seqE rfl rfl (stepCall rfl Try.call103 rfl ?_)
    refine (next_c g B cB D (k + i) 1 f H1 h1 (by omega)).mono ?_
    rintro v H2 ⟨hK2, hres⟩
    have hK := hK1.trans hK2
    rcases hres with ⟨hbad, rfl, h2⟩ | ⟨rfl, hlen, A, c, rfl, h2, hA⟩
    · skip
      refine seqQ rfl rfl (yAssign (v := .slice _ _ _) rfl rfl) ?_
      refine seqNil ?_
      refine hF9 _ _ ?_; clear hF9
      refine wpSeq fun F10 hF10 => ?_
      refine wpSeq fun F11 hF11 => ?_
      refine wpRegion ?_
      refine seqQ rfl rfl (yMove (v := .pointer _) rfl rfl) ?_
      refine seqQ rfl rfl (yNilCheck rfl rfl) ?_
      refine seqQ rfl rfl (yFieldAddr rfl Try.underlying134 rfl Try.sizeOf4 rfl rfl) ?_
      refine seqQ rfl rfl (yLoad rfl Try.underlying4 rfl rfl (h2.blk.cell rfl)) ?_
      refine seqNil ?_
      refine hF11 _ _ ?_; clear hF11
      -- if t14
      refine wpT rfl ?_
      refine wpSeq fun F12 hF12 => ?_
      refine wpRegion ?_
      refine seqQ rfl rfl (yAssign (v := .int _ _) rfl rfl) ?_
      refine seqNil ?_
      refine hF12 _ _ ?_; clear hF12
      -- ret
      refine wpRet (fin1 (v := .int _ _) rfl rfl ?_)
      refine RP.fail hK ?_ h2 ⟨_, rfl⟩
      unfold prs
      cases f
      · have hge : D.length ≤ k + i := by have := h1.le; rcases hbad with h | h; cases h; omega
        have := hrd rfl
        rw [List.drop_of_length_le hge] at this
        show rdI (D.drop k) = none
        unfold rdI
        rw [this]
        rfl
      · rfl
    · skip
      have hk : k + i < D.length := by omega
      rw [take1 hk] at hA
      obtain ⟨p, rfl, hp⟩ := hA.one1
      have hc := D[k + i].toNat_lt
      generalize hcd : D[k + i] = cc at hp hc
      have hdrop : D.drop (k + i) = cc :: D.drop (k + i + 1) := by rw [List.drop_eq_getElem_cons hk, hcd]
      have hrd := hrd rfl
      rw [hdrop] at hrd
      obtain ⟨acc', hb1, hb2, hb3, hb4⟩ := acc_bits (k := i) hi hacc hc
      refine seqQ rfl rfl (yAssign (v := .slice _ _ _) rfl rfl) ?_
      refine seqNil ?_
      refine hF9 _ _ ?_; clear hF9
      refine wpSeq fun F13 hF13 => ?_
      refine wpSeq fun F14 hF14 => ?_
      refine wpRegion ?_
      refine seqQ rfl rfl (yMove (v := .pointer _) rfl rfl) ?_
      refine seqQ rfl rfl (yNilCheck rfl rfl) ?_
      refine seqQ rfl rfl (yFieldAddr rfl Try.underlying134 rfl Try.sizeOf4 rfl rfl) ?_
      refine seqQ rfl rfl (yLoad rfl Try.underlying4 rfl rfl (h2.blk.cell rfl)) ?_
      refine seqNil ?_
      refine hF14 _ _ ?_; clear hF14
      -- if t14
      refine wpF rfl ?_
      refine wpSkip ?_
      refine hF13 _ _ ?_; clear hF13
      refine wpSeq fun F15 hF15 => ?_
      refine wpRegion ?_
      refine seqQ rfl rfl (yMove (v := .int _ _) rfl rfl) ?_
      refine seqQ rfl rfl (yMove (v := .slice _ _ _) rfl rfl) ?_
      refine seqQ rfl rfl (yIdx1 rfl Try.underlying58 Try.sizeOf5 rfl rfl (show (0 : Int) = ((0 : Nat) : Int) from rfl) (by omega)) ?_
      refine seqQ rfl rfl (yLoad rfl Try.underlying5 rfl rfl hp) ?_
      refine seqQ rfl rfl (yAndE rfl rfl rfl rfl) ?_
      refine seqQ rfl rfl (yConv rfl Try.underlying5 Try.underlying131 rfl rfl) ?_
      refine seqQ rfl rfl (yMove (v := .int _ _) rfl rfl) ?_
      refine seqQ rfl rfl (yMul rfl rfl rfl (by dsimp only; unfold In64; omega)) ?_
      refine seqQ rfl rfl (yShlE (c := IntKind.u64.wrap (IntKind.u64.wrap (bits BinOp.and IntKind.u8 (cc.toNat : Int) 127) * 2 ^ (7 * i))) rfl rfl rfl (by dsimp only; show (0 : Int) ≤ 7 * (i : Int) ∧ 7 * (i : Int) ≤ 64; omega) (by dsimp only; rw [show (7 * (i : Int)).toNat = 7 * i by omega])) ?_
      refine seqQ rfl rfl (yOrE rfl rfl rfl hb1) ?_
      refine seqQ rfl rfl (yAssign (v := .int _ _) rfl rfl) ?_
      refine seqNil ?_
      refine hF15 _ _ ?_; clear hF15
      refine wpSeq fun F16 hF16 => ?_
      refine wpRegion ?_
      refine seqQ rfl rfl (yMove (v := .slice _ _ _) rfl rfl) ?_
      refine seqQ rfl rfl (yIdx1 rfl Try.underlying58 Try.sizeOf5 rfl rfl (show (0 : Int) = ((0 : Nat) : Int) from rfl) (by omega)) ?_
      refine seqQ rfl rfl (yLoad rfl Try.underlying5 rfl rfl hp) ?_
      refine seqQ rfl rfl (yLss rfl rfl rfl) ?_
      refine seqNil ?_
      refine hF16 _ _ ?_; clear hF16
      -- if t28
      refine wpIf rfl (fun hs => ?_) (fun hs => ?_)
      · skip
        have hs : cc.toNat < 128 := by omega
        have hu : acc' < 18446744073709551616 := hb3
        refine wpSeq fun F17 hF17 => ?_
        refine wpRegion ?_
        refine seqQ rfl rfl (yMove (v := .pointer _) rfl rfl) ?_
        refine seqQ rfl rfl (yMove (v := .slice _ _ _) rfl rfl) ?_
        refine seqQ rfl rfl (yIdx1 rfl Try.underlying58 Try.sizeOf5 rfl rfl (show (0 : Int) = ((0 : Nat) : Int) from rfl) (by omega)) ?_
        refine seqQ rfl rfl (yLoad rfl Try.underlying5 rfl rfl hp) ?_
        refine seqQ rfl rfl (yEql rfl rfl rfl) ?_
        -- guard t34
        refine seqMeet 9 [34, 35, 36, 37] 37 (decide ((cc.toNat : Int) = 0 ∧ 0 < (i : Int))) (fun hm18 => ?_) (fun J18 => ?_)
        · skip
          first | refine seqG rfl rfl rfl rfl (fun h34 => ?_) (fun h34 => ?_) | refine seqGB rfl rfl rfl rfl (fun h34 => ?_) (fun h34 => ?_)
          · skip
            refine seqQ rfl rfl (yMove (v := .int _ _) rfl rfl) ?_
            refine seqQ rfl rfl (yGtr rfl rfl rfl) ?_
            refine seqQ rfl rfl (yPickT (v := .bool _) rfl rfl rfl) ?_
            exact hm18 _ (by repeat (first | (with_reducible exact Agree.refl _ _) | refine Agree.upd ?_ rfl | refine Agree.over ?_ rfl)) (by show Value.bool _ = Value.bool _; congr 1; grind)
          · skip
            refine seqU rfl rfl ?_
            refine seqU rfl rfl ?_
            refine seqQ rfl rfl (yPickF (v := .bool _) rfl rfl rfl) ?_
            exact hm18 _ (by repeat (first | (with_reducible exact Agree.refl _ _) | refine Agree.upd ?_ rfl | refine Agree.over ?_ rfl)) (by show Value.bool _ = Value.bool _; congr 1; grind)
        -- guard t38
        by_cases hz : (cc.toNat : Int) = 0 ∧ 0 < (i : Int)
        · rw [decide_eq_true hz]
          refine seqQ rfl rfl (yMove (v := .bool true) rfl rfl) ?_
          refine seqU rfl rfl ?_
          refine seqU rfl rfl ?_
          refine seqU rfl rfl ?_
          refine seqU rfl rfl ?_
          refine seqU rfl rfl ?_
          refine seqU rfl rfl ?_
          refine seqU rfl rfl ?_
          refine seqU rfl rfl ?_
          refine seqQ rfl rfl (yPickT (v := .bool _) rfl rfl rfl) ?_
          refine seqQ rfl rfl (yNilCheck rfl rfl) ?_
          refine seqQ rfl rfl (yFieldAddr rfl Try.underlying134 rfl Try.sizeOf4 rfl rfl) ?_
          -- e slot None: store T4 t49 t47
          refine seqE0 rfl rfl (stepStore rfl Try.sizeOf4 rfl rfl rfl rfl h2.blk (Nat.le_of_ble_eq_true rfl) ?_)
          intro H3 hB3 hK3
          refine seqNil ?_
          refine hF17 _ _ ?_; clear hF17
          refine wpSeq fun F19 hF19 => ?_
          refine wpRegion ?_
          refine seqQ rfl rfl (yMove (v := .int _ _) rfl rfl) ?_
          refine seqQ rfl rfl (yShrE (c := (acc' : Int) / 2) rfl rfl rfl (by decide) (by rw [Int.fdiv_eq_ediv_of_nonneg _ (by decide)]; rfl)) ?_
          refine seqQ rfl rfl (yConv rfl Try.underlying131 Try.underlying3 rfl (half hu)) ?_
          refine seqQ rfl rfl (yMove (v := .int _ _) rfl rfl) ?_
          refine seqQ rfl rfl (yAndE rfl rfl rfl rfl) ?_
          refine seqQ rfl rfl (yConv rfl Try.underlying131 Try.underlying3 rfl (low hu)) ?_
          refine seqQ rfl rfl (yNeg rfl rfl (by unfold In64; omega)) ?_
          refine seqQ rfl rfl (yXorE rfl rfl rfl (unzig_bits' hu)) ?_
          refine seqQ rfl rfl (yAssign (v := .int _ _) rfl rfl) ?_
          refine seqNil ?_
          refine hF19 _ _ ?_; clear hF19
          -- ret
          refine wpRet (fin1 (v := .int _ _) rfl rfl ?_)
          refine RP.fail (hK.trans hK3) ?_ (h2.store (k' := k + i + 1) hB3 hK3 (by omega)) ⟨_, rfl⟩
          show rdI (D.drop k) = none
          unfold rdI
          rw [hrd, rdU_bad hi hs (.inl (by omega))]
          rfl
        · rw [decide_eq_false hz]
          refine seqQ rfl rfl (yMove (v := .bool false) rfl rfl) ?_
          refine seqQ rfl rfl (yMove (v := .int _ _) rfl rfl) ?_
          refine seqQ rfl rfl (yEql rfl rfl rfl) ?_
          -- guard t41
          refine seqMeet 18 [41, 42, 43, 44, 45, 46] 46 (decide ((i : Int) = 9 ∧ 1 < (cc.toNat : Int))) (fun hm20 => ?_) (fun J20 => ?_)
          · skip
            first | refine seqG rfl rfl rfl rfl (fun h41 => ?_) (fun h41 => ?_) | refine seqGB rfl rfl rfl rfl (fun h41 => ?_) (fun h41 => ?_)
            · skip
              refine seqQ rfl rfl (yMove (v := .slice _ _ _) rfl rfl) ?_
              refine seqQ rfl rfl (yIdx1 rfl Try.underlying58 Try.sizeOf5 rfl rfl (show (0 : Int) = ((0 : Nat) : Int) from rfl) (by omega)) ?_
              refine seqQ rfl rfl (yLoad rfl Try.underlying5 rfl rfl hp) ?_
              refine seqQ rfl rfl (yGtr rfl rfl rfl) ?_
              refine seqQ rfl rfl (yPickT (v := .bool _) rfl rfl rfl) ?_
              exact hm20 _ (by repeat (first | (with_reducible exact Agree.refl _ _) | refine Agree.upd ?_ rfl | refine Agree.over ?_ rfl)) (by show Value.bool _ = Value.bool _; congr 1; grind)
            · skip
              refine seqU rfl rfl ?_
              refine seqU rfl rfl ?_
              refine seqU rfl rfl ?_
              refine seqU rfl rfl ?_
              refine seqQ rfl rfl (yPickF (v := .bool _) rfl rfl rfl) ?_
              exact hm20 _ (by repeat (first | (with_reducible exact Agree.refl _ _) | refine Agree.upd ?_ rfl | refine Agree.over ?_ rfl)) (by show Value.bool _ = Value.bool _; congr 1; grind)
          refine seqQ rfl rfl (yPickF (v := .bool _) rfl rfl rfl) ?_
          refine seqQ rfl rfl (yNilCheck rfl rfl) ?_
          refine seqQ rfl rfl (yFieldAddr rfl Try.underlying134 rfl Try.sizeOf4 rfl rfl) ?_
          -- e slot None: store T4 t49 t47
          refine seqE0 rfl rfl (stepStore rfl Try.sizeOf4 rfl rfl rfl rfl h2.blk (Nat.le_of_ble_eq_true rfl) ?_)
          intro H3 hB3 hK3
          refine seqNil ?_
          refine hF17 _ _ ?_; clear hF17
          refine wpSeq fun F21 hF21 => ?_
          refine wpRegion ?_
          refine seqQ rfl rfl (yMove (v := .int _ _) rfl rfl) ?_
          refine seqQ rfl rfl (yShrE (c := (acc' : Int) / 2) rfl rfl rfl (by decide) (by rw [Int.fdiv_eq_ediv_of_nonneg _ (by decide)]; rfl)) ?_
          refine seqQ rfl rfl (yConv rfl Try.underlying131 Try.underlying3 rfl (half hu)) ?_
          refine seqQ rfl rfl (yMove (v := .int _ _) rfl rfl) ?_
          refine seqQ rfl rfl (yAndE rfl rfl rfl rfl) ?_
          refine seqQ rfl rfl (yConv rfl Try.underlying131 Try.underlying3 rfl (low hu)) ?_
          refine seqQ rfl rfl (yNeg rfl rfl (by unfold In64; omega)) ?_
          refine seqQ rfl rfl (yXorE rfl rfl rfl (unzig_bits' hu)) ?_
          refine seqQ rfl rfl (yAssign (v := .int _ _) rfl rfl) ?_
          refine seqNil ?_
          refine hF21 _ _ ?_; clear hF21
          -- ret
          refine wpRet (fin1 (v := .int _ _) rfl rfl ?_)
          by_cases h9 : (i : Int) = 9 ∧ 1 < (cc.toNat : Int)
          · rw [decide_eq_true h9] at hB3
            refine RP.fail (hK.trans hK3) ?_ (h2.store (k' := k + i + 1) hB3 hK3 (by omega)) ⟨_, rfl⟩
            show rdI (D.drop k) = none
            unfold rdI
            rw [hrd, rdU_bad hi hs (.inr (by omega))]
            rfl
          · rw [decide_eq_false h9] at hB3
            have ha := hb4 (by omega)
            refine RP.good (k' := k + i + 1) (hK.trans hK3) ?_ (h2.store (k' := k + i + 1) hB3 hK3 (by omega)) ⟨rfl, ?_⟩
            · unfold rdI
              rw [hrd, rdU_good hi hs ⟨by omega, by omega⟩]
              simp only [Option.map_some]
              rw [ha, Nat.mod_eq_of_lt hs]
            · unfold P64 unzig
              split <;> omega
      · skip
        have hs : 128 ≤ cc.toNat := by omega
        refine wpSkip ?_
        refine hF7 _ _ ?_; clear hF7
        refine wpRegion ?_
        refine seqQ rfl rfl (yAdd rfl rfl rfl (by unfold In64; omega)) ?_
        refine seqQ rfl rfl (yMove (v := .int _ _) rfl rfl) ?_
        refine seqNil ?_
        -- end loop
        refine loopEnd (i + 1, acc') (by repeat (first | (with_reducible exact Agree.refl _ _) | refine Agree.upd ?_ rfl | refine Agree.over ?_ rfl)) (by dsimp only; omega) ⟨rfl, rfl, trivial⟩ ⟨hi, hK, h2, (fun h => by cases h), hb2, fun _ => ?_⟩
        dsimp only
        rw [hrd, rdU_more hi hs, ← Nat.add_assoc]
        cases hq : rdU (i + 1) (D.drop (k + i + 1)) with
        | none => rfl
        | some q =>
          simp only [Option.map_some, Option.some.injEq, Prod.mk.injEq, and_true]
          have hi9 : i < 9 := by
            rcases Nat.lt_or_ge i 9 with h | h
            · exact h
            · have : i = 9 := by omega
              subst this
              rw [rdU_ten] at hq
              cases hq
          rw [hb4 (.inl hi9), Nat.pow_succ]
          have e1 : cc.toNat % 128 = cc.toNat - 128 := by omega
          rw [e1, Nat.mul_add, Nat.add_assoc, Nat.mul_assoc]
  · skip
    have ei : i = 10 := by dsimp only at hlt; omega
    subst ei
    have hf : f = false := by
      cases f
      · rfl
      · have := h0 rfl; omega
    subst hf
    refine wpExit ?_
    refine hF3 _ _ ?_; clear hF3
    refine wpSeq fun F22 hF22 => ?_
    refine wpRegion ?_
    refine seqQ rfl rfl (yMove (v := .pointer _) rfl rfl) ?_
    refine seqQ rfl rfl (yNilCheck rfl rfl) ?_
    refine seqQ rfl rfl (yFieldAddr rfl Try.underlying134 rfl Try.sizeOf4 rfl rfl) ?_
    -- e slot None: store T4 t61 [b:true]
    refine seqE0 rfl rfl (stepStore rfl Try.sizeOf4 rfl rfl rfl rfl h1.blk (Nat.le_of_ble_eq_true rfl) ?_)
    intro H3 hB3 hK3
    refine seqNil ?_
    refine hF22 _ _ ?_; clear hF22
    refine wpSeq fun F23 hF23 => ?_
    refine wpRegion ?_
    refine seqQ rfl rfl (yAssign (v := .int _ _) rfl rfl) ?_
    refine seqNil ?_
    refine hF23 _ _ ?_; clear hF23
    -- ret
    refine wpRet (fin1 (v := .int _ _) rfl rfl ?_)
    refine RP.fail (hK1.trans hK3) ?_ (h1.store hB3 hK3 h1.le) ⟨_, rfl⟩
    show rdI (D.drop k) = none
    unfold rdI
    rw [hrd rfl, rdU_ten']
    rfl

def pBnd (lo hi : Int) (b : List UInt8) : Option (Int × List UInt8) := (rdI b).bind fun x => if lo ≤ x.1 ∧ x.1 ≤ hi then some x else none
def VB (lo hi : Int) (_ : Heap) (n : Int) (v : Value) : Prop := v = .int .i64 n ∧ lo ≤ n ∧ n ≤ hi
set_option maxRecDepth 100000 in
theorem pBnd_some {lo hi n : Int} {b r : List UInt8} (h : rdI b = some (n, r)) (hn : lo ≤ n ∧ n ≤ hi) : pBnd lo hi b = some (n, r) := by unfold pBnd; rw [h]; exact if_pos hn
set_option maxRecDepth 100000 in
theorem pBnd_out {lo hi n : Int} {b r : List UInt8} (h : rdI b = some (n, r)) (hn : ¬ (lo ≤ n ∧ n ≤ hi)) : pBnd lo hi b = none := by unfold pBnd; rw [h]; exact if_neg hn
set_option maxRecDepth 100000 in
theorem pBnd_none {lo hi : Int} {b : List UInt8} (h : rdI b = none) : pBnd lo hi b = none := by unfold pBnd; rw [h]; rfl
set_option maxRecDepth 100000 in
theorem prs_t {α : Type} (p : List UInt8 → Option (α × List UInt8)) (D : List UInt8) (k : Nat) : prs p true D k = none := rfl
set_option maxRecDepth 100000 in
theorem prs_f {α : Type} (p : List UInt8 → Option (α × List UInt8)) (D : List UInt8) (k : Nat) : prs p false D k = p (D.drop k) := rfl
set_option maxRecDepth 100000 in
theorem bounded_c (g : Nat) (B : Option Addr) (cB : Nat) (D : List UInt8) (k : Nat) (f : Bool) (lo hi : Int) (H : Heap) (h : Rdr H g B cB D k f) :
    CallsH Try.prog 104 [.pointer (some ⟨g, 0, none⟩), .int .i64 lo, .int .i64 hi] H fun v H' => RP (pBnd lo hi) (VB lo hi) UI g B cB D k f H v H' := by
  refine callsH_of Try.func104 rfl Try.ntmps104 (Nat.le_of_ble_eq_true rfl) ?_
  refine wpSeq fun F1 hF1 => ?_
  refine wpRegion ?_
  refine seqQ rfl rfl (yAssign (v := .int _ _) rfl rfl) ?_
  refine seqNil ?_
  refine hF1 _ _ ?_; clear hF1
  refine wpSeq fun F2 hF2 => ?_
  refine wpRegion ?_
  refine seqQ rfl rfl (yMove (v := .pointer _) rfl rfl) ?_
  -- e slot 9: call F90<(*farandole/wire.Reader).integer> t8
  refine seqE rfl rfl (stepCall rfl Try.call90 rfl ?_)
  refine (integer_c g B cB D k f H h).mono ?_
  rintro v H1 ⟨hK1, ⟨n, r, k', hp, hr, h1, rfl, h64⟩ | ⟨hp, ⟨k', h1⟩, z, rfl⟩⟩
  · skip
    have hf : f = false := by cases f; rfl; cases hp
    subst hf
    rw [prs_f] at hp
    refine seqQ rfl rfl (yAssign (v := .int _ _) rfl rfl) ?_
    refine seqNil ?_
    refine hF2 _ _ ?_; clear hF2
    refine wpSeq fun F3 hF3 => ?_
    refine wpRegion ?_
    refine seqQ rfl rfl (yMove (v := .pointer _) rfl rfl) ?_
    refine seqQ rfl rfl (yMove (v := .pointer _) rfl rfl) ?_
    refine seqQ rfl rfl (yNilCheck rfl rfl) ?_
    refine seqQ rfl rfl (yFieldAddr rfl Try.underlying134 rfl Try.sizeOf4 rfl rfl) ?_
    refine seqQ rfl rfl (yLoad rfl Try.underlying4 rfl rfl (h1.blk.cell rfl)) ?_
    refine seqQ rfl rfl (yMove (v := .bool false) rfl rfl) ?_
    refine seqQ rfl rfl (yMove (v := .int _ _) rfl rfl) ?_
    refine seqQ rfl rfl (yMove (v := .int _ _) rfl rfl) ?_
    refine seqQ rfl rfl (yLss rfl rfl rfl) ?_
    refine seqQ rfl rfl (yPickF (v := .bool _) rfl rfl rfl) ?_
    -- guard t20
    refine seqMeet 15 [20, 21, 22, 23, 24] 24 (decide (n < lo ∨ hi < n)) (fun hm4 => ?_) (fun J4 => ?_)
    · skip
      first | refine seqG rfl rfl rfl rfl (fun h20 => ?_) (fun h20 => ?_) | refine seqGB rfl rfl rfl rfl (fun h20 => ?_) (fun h20 => ?_)
      · skip
        refine seqU rfl rfl ?_
        refine seqU rfl rfl ?_
        refine seqU rfl rfl ?_
        refine seqQ rfl rfl (yPickT (v := .bool _) rfl rfl rfl) ?_
        exact hm4 _ (by repeat (first | (with_reducible exact Agree.refl _ _) | refine Agree.upd ?_ rfl | refine Agree.over ?_ rfl)) (by show Value.bool _ = Value.bool _; congr 1; grind)
      · skip
        refine seqQ rfl rfl (yMove (v := .int _ _) rfl rfl) ?_
        refine seqQ rfl rfl (yMove (v := .int _ _) rfl rfl) ?_
        refine seqQ rfl rfl (yGtr rfl rfl rfl) ?_
        refine seqQ rfl rfl (yPickF (v := .bool _) rfl rfl rfl) ?_
        exact hm4 _ (by repeat (first | (with_reducible exact Agree.refl _ _) | refine Agree.upd ?_ rfl | refine Agree.over ?_ rfl)) (by show Value.bool _ = Value.bool _; congr 1; grind)
    refine seqQ rfl rfl (yNilCheck rfl rfl) ?_
    refine seqQ rfl rfl (yFieldAddr rfl Try.underlying134 rfl Try.sizeOf4 rfl rfl) ?_
    -- e slot None: store T4 t26 t24
    refine seqE0 rfl rfl (stepStore rfl Try.sizeOf4 rfl rfl rfl rfl h1.blk (Nat.le_of_ble_eq_true rfl) ?_)
    intro H3 hB3 hK3
    refine seqNil ?_
    refine hF3 _ _ ?_; clear hF3
    refine wpSeq fun F5 hF5 => ?_
    refine wpRegion ?_
    refine seqQ rfl rfl (yMove (v := .int _ _) rfl rfl) ?_
    refine seqQ rfl rfl (yAssign (v := .int _ _) rfl rfl) ?_
    refine seqNil ?_
    refine hF5 _ _ ?_; clear hF5
    -- ret
    refine wpRet (fin1 (v := .int _ _) rfl rfl ?_)
    by_cases hn : n < lo ∨ hi < n
    · rw [decide_eq_true hn] at hB3
      exact RP.fail (hK1.trans hK3) (pBnd_out hp (by omega)) (h1.store hB3 hK3 h1.le) ⟨_, rfl⟩
    · rw [decide_eq_false hn] at hB3
      subst hr
      exact RP.good (hK1.trans hK3) (pBnd_some hp (by omega)) (h1.store hB3 hK3 h1.le) ⟨rfl, by omega, by omega⟩
  · skip
    refine seqQ rfl rfl (yAssign (v := .int _ _) rfl rfl) ?_
    refine seqNil ?_
    refine hF2 _ _ ?_; clear hF2
    refine wpSeq fun F6 hF6 => ?_
    refine wpRegion ?_
    refine seqQ rfl rfl (yMove (v := .pointer _) rfl rfl) ?_
    refine seqQ rfl rfl (yMove (v := .pointer _) rfl rfl) ?_
    refine seqQ rfl rfl (yNilCheck rfl rfl) ?_
    refine seqQ rfl rfl (yFieldAddr rfl Try.underlying134 rfl Try.sizeOf4 rfl rfl) ?_
    refine seqQ rfl rfl (yLoad rfl Try.underlying4 rfl rfl (h1.blk.cell rfl)) ?_
    refine seqQ rfl rfl (yMove (v := .bool true) rfl rfl) ?_
    refine seqU rfl rfl ?_
    refine seqU rfl rfl ?_
    refine seqU rfl rfl ?_
    refine seqQ rfl rfl (yPickT (v := .bool _) rfl rfl rfl) ?_
    refine seqQ rfl rfl (yMove (v := .bool true) rfl rfl) ?_
    refine seqU rfl rfl ?_
    refine seqU rfl rfl ?_
    refine seqU rfl rfl ?_
    refine seqQ rfl rfl (yPickT (v := .bool _) rfl rfl rfl) ?_
    refine seqQ rfl rfl (yNilCheck rfl rfl) ?_
    refine seqQ rfl rfl (yFieldAddr rfl Try.underlying134 rfl Try.sizeOf4 rfl rfl) ?_
    -- e slot None: store T4 t26 t24
    refine seqE0 rfl rfl (stepStore rfl Try.sizeOf4 rfl rfl rfl rfl h1.blk (Nat.le_of_ble_eq_true rfl) ?_)
    intro H3 hB3 hK3
    refine seqNil ?_
    refine hF6 _ _ ?_; clear hF6
    refine wpSeq fun F7 hF7 => ?_
    refine wpRegion ?_
    refine seqQ rfl rfl (yMove (v := .int _ _) rfl rfl) ?_
    refine seqQ rfl rfl (yAssign (v := .int _ _) rfl rfl) ?_
    refine seqNil ?_
    refine hF7 _ _ ?_; clear hF7
    -- ret
    refine wpRet (fin1 (v := .int _ _) rfl rfl ?_)
    refine RP.fail (hK1.trans hK3) ?_ (h1.store hB3 hK3 h1.le) ⟨_, rfl⟩
    cases f
    · exact pBnd_none hp
    · rfl
def pBool (b : List UInt8) : Option (Bool × List UInt8) := match b with
  | [] => none
  | c :: r => if c.toNat ≤ 1 then some (decide (c.toNat = 1), r) else none
def VBo (_ : Heap) (b : Bool) (v : Value) : Prop := v = .bool b
def UBo (_ : Heap) (v : Value) : Prop := ∃ z, v = .bool z
def pBytes (most : Int) (b : List UInt8) : Option (List UInt8 × List UInt8) := (pBnd 0 most b).bind fun x => if x.1.toNat ≤ x.2.length then some (x.2.take x.1.toNat, x.2.drop x.1.toNat) else none
def VBs (g : Nat) (H : Heap) (b : List UInt8) (v : Value) : Prop := ∃ A c, v = .slice A b.length c ∧ RdM eByte [g] H A b
def UBs (_ : Heap) (v : Value) : Prop := v = .slice none 0 0
set_option maxRecDepth 100000 in
theorem bytesR_c (g : Nat) (B : Option Addr) (cB : Nat) (D : List UInt8) (k : Nat) (f : Bool) (most : Int) (H : Heap) (h : Rdr H g B cB D k f) (hm : most ≤ 1000000000) :
    CallsH Try.prog 105 [.pointer (some ⟨g, 0, none⟩), .int .i64 most] H fun v H' => RP (pBytes most) (VBs g) UBs g B cB D k f H v H' := by
  refine callsH_of Try.func105 rfl Try.ntmps105 (Nat.le_of_ble_eq_true rfl) ?_
  refine wpSeq fun F1 hF1 => ?_
  refine wpRegion ?_
  refine seqQ rfl rfl (yAssign (v := .slice _ _ _) rfl rfl) ?_
  refine seqNil ?_
  refine hF1 _ _ ?_; clear hF1
  refine wpSeq fun F2 hF2 => ?_
  refine wpRegion ?_
  refine seqQ rfl rfl (yMove (v := .pointer _) rfl rfl) ?_
  refine seqQ rfl rfl (yMove (v := .int _ _) rfl rfl) ?_
  -- e slot 8: call F104<(*farandole/wire.Reader).bounded> t6 [i:i64:0] t7
  refine seqE rfl rfl (stepCall rfl Try.call104 rfl ?_)
  refine (bounded_c g B cB D k f 0 most H h).mono ?_
  rintro v H1 ⟨hK1, ⟨n, r, k', hp, hr, h1, rfl, hn0, hnm⟩ | ⟨hp, ⟨k', h1⟩, z, rfl⟩⟩
  · skip
    have hf : f = false := by cases f; rfl; cases hp
    subst hf
    rw [prs_f] at hp
    obtain ⟨m, rfl⟩ := Int.eq_ofNat_of_zero_le hn0
    have hle1 := h1.le
    refine seqQ rfl rfl (yAssign (v := .int _ _) rfl rfl) ?_
    refine seqNil ?_
    refine hF2 _ _ ?_; clear hF2
    refine wpSeq fun F3 hF3 => ?_
    refine wpSeq fun F4 hF4 => ?_
    refine wpRegion ?_
    refine seqQ rfl rfl (yMove (v := .pointer _) rfl rfl) ?_
    refine seqQ rfl rfl (yNilCheck rfl rfl) ?_
    refine seqQ rfl rfl (yFieldAddr rfl Try.underlying134 rfl Try.sizeOf4 rfl rfl) ?_
    refine seqQ rfl rfl (yLoad rfl Try.underlying4 rfl rfl (h1.blk.cell rfl)) ?_
    refine seqNil ?_
    refine hF4 _ _ ?_; clear hF4
    -- if t12
    refine wpF rfl ?_
    refine wpSkip ?_
    refine hF3 _ _ ?_; clear hF3
    refine wpSeq fun F5 hF5 => ?_
    refine wpRegion ?_
    refine seqQ rfl rfl (yMove (v := .pointer _) rfl rfl) ?_
    refine seqQ rfl rfl (yMove (v := .int _ _) rfl rfl) ?_
    -- e slot 15: call F103<(*farandole/wire.Reader).next> t13 t14
    refine seqE rfl rfl (stepCall rfl Try.call103 rfl ?_)
    refine (next_c g B cB D k' m false H1 h1 (by omega)).mono ?_
    rintro v H2 ⟨hK2, ⟨hbad, rfl, h2⟩ | ⟨-, hlen, A, c, rfl, h2, hA⟩⟩
    · skip
      refine seqQ rfl rfl (yAssign (v := .slice _ _ _) rfl rfl) ?_
      refine seqNil ?_
      refine hF5 _ _ ?_; clear hF5
      -- ret
      refine wpRet (fin1 (v := .slice _ _ _) rfl rfl ?_)
      have hbad : D.length < k' + m := by rcases hbad with h | h; cases h; exact h
      refine RP.fail (hK1.trans hK2) ?_ h2 rfl
      rw [prs_f]
      unfold pBytes
      rw [hp]
      subst hr
      refine if_neg ?_
      rw [List.length_drop]
      show ¬ m ≤ _
      omega
    · skip
      refine seqQ rfl rfl (yAssign (v := .slice _ _ _) rfl rfl) ?_
      refine seqNil ?_
      refine hF5 _ _ ?_; clear hF5
      -- ret
      refine wpRet (fin1 (v := .slice _ _ _) rfl rfl ?_)
      subst hr
      have hl : ((D.drop k').take m).length = m := by rw [List.length_take, List.length_drop]; omega
      refine RP.good (a := (D.drop k').take m) (hK1.trans hK2) ?_ h2 ⟨A, c, by rw [hl], hA⟩
      unfold pBytes
      rw [hp]
      rw [← List.drop_drop]
      refine if_pos ?_
      rw [List.length_drop]
      show m ≤ _
      omega
  · skip
    refine seqQ rfl rfl (yAssign (v := .int _ _) rfl rfl) ?_
    refine seqNil ?_
    refine hF2 _ _ ?_; clear hF2
    refine wpSeq fun F6 hF6 => ?_
    refine wpSeq fun F7 hF7 => ?_
    refine wpRegion ?_
    refine seqQ rfl rfl (yMove (v := .pointer _) rfl rfl) ?_
    refine seqQ rfl rfl (yNilCheck rfl rfl) ?_
    refine seqQ rfl rfl (yFieldAddr rfl Try.underlying134 rfl Try.sizeOf4 rfl rfl) ?_
    refine seqQ rfl rfl (yLoad rfl Try.underlying4 rfl rfl (h1.blk.cell rfl)) ?_
    refine seqNil ?_
    refine hF7 _ _ ?_; clear hF7
    -- if t12
    refine wpT rfl ?_
    refine wpSeq fun F8 hF8 => ?_
    refine wpRegion ?_
    refine seqQ rfl rfl (yAssign (v := .slice _ _ _) rfl rfl) ?_
    refine seqNil ?_
    refine hF8 _ _ ?_; clear hF8
    -- ret
    refine wpRet (fin1 (v := .slice _ _ _) rfl rfl ?_)
    refine RP.fail hK1 ?_ h1 rfl
    cases f
    · rw [prs_f] at hp ⊢
      unfold pBytes
      rw [hp]
      rfl
    · rfl
end Go.Proofs.Ytcfnmklbkhibgaa
