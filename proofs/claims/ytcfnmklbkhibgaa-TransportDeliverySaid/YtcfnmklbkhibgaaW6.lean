/- Package wire: the reader: lists, events. -/
import Derived.Test.YtcfnmklbkhibgaaW5
namespace Go.Proofs.Ytcfnmklbkhibgaa
open Go.RowKit

def pN {α : Type} (p : List UInt8 → Option (α × List UInt8)) : Nat → List UInt8 → Option (List α × List UInt8)
  | 0, b => some ([], b)
  | n + 1, b => (p b).bind fun x => (pN p n x.2).map fun y => (x.1 :: y.1, y.2)
def pList {α : Type} (p : List UInt8 → Option (α × List UInt8)) (most : Int) (b : List UInt8) : Option (List α × List UInt8) := (pBnd 0 most b).bind fun x => pN p x.1.toNat x.2
set_option maxRecDepth 100000 in
theorem pN_len {α : Type} {p : List UInt8 → Option (α × List UInt8)} : ∀ (n : Nat) (b : List UInt8) (l : List α) (r : List UInt8), pN p n b = some (l, r) → l.length = n
  | 0, b, l, r, h => by simp only [pN, Option.some.injEq, Prod.mk.injEq] at h; rw [← h.1]; rfl
  | n + 1, b, l, r, h => by
    simp only [pN] at h
    cases hq : p b with
    | none => rw [hq] at h; cases h
    | some x =>
      rw [hq] at h
      simp only [Option.bind_some] at h
      cases hq2 : pN p n x.2 with
      | none => rw [hq2] at h; cases h
      | some y =>
        rw [hq2] at h
        simp only [Option.map_some, Option.some.injEq, Prod.mk.injEq] at h
        rw [← h.1, List.length_cons, pN_len n x.2 y.1 y.2 hq2]
set_option maxRecDepth 100000 in
theorem pN_step {α : Type} {p : List UInt8 → Option (α × List UInt8)} {n : Nat} {b r : List UInt8} {x : α} (h : p b = some (x, r)) (l : List α) :
    ((pN p (n + 1) b).map fun y => (l ++ y.1, y.2)) = (pN p n r).map fun y => ((l ++ [x]) ++ y.1, y.2) := by
  simp only [pN]
  rw [h]
  simp only [Option.bind_some]
  cases pN p n r with
  | none => rfl
  | some y => simp
set_option maxRecDepth 100000 in
theorem pN_stop {α : Type} {p : List UInt8 → Option (α × List UInt8)} {n : Nat} {b : List UInt8} (h : p b = none) (l : List α) : ((pN p (n + 1) b).map fun y => (l ++ y.1, y.2)) = none := by
  simp only [pN]
  rw [h]
  rfl
/-- A list that a method has made. -/
def VL {α : Type} (c : El α) (e : TypeId) (b0 : Nat) (Q : α → Prop) (H : Heap) (l : List α) (v : Value) : Prop := Own c e H b0 v l ∧ ∀ x ∈ l, Q x
def UL (_ : Heap) (v : Value) : Prop := ∃ A n c, v = .slice A n c
set_option maxRecDepth 100000 in
theorem keepGrew {H H1 H2 H3 : Heap} {v v' : Value} {g : Nat} (hK : Keep [g] H H1) (hx : Ext H1 H2) (hg : Grew H2 v H3 v') (hb : ∀ gb, v.ownBlock = some gb → H.size ≤ gb) : Keep [g] H H3 :=
  ⟨Nat.le_trans (keepExt hK hx).size hg.1.size, fun b hlt hm => (hg.1.at_ b (Nat.lt_of_lt_of_le hlt (keepExt hK hx).size) (fun h => by rw [Option.mem_toList] at h; have := hb _ h; omega)).trans ((keepExt hK hx).at_ b hlt hm)⟩
def OkW (x : Val) : Prop := OkVal x ∧ x.s.size ≤ 40 ∧ ((x.kind = 1 ∧ x.s = ⟨#[]⟩) ∨ (x.kind = 2 ∧ x.n = 0))
set_option maxRecDepth 100000 in
theorem elem_eWV : Elem Try.prog 80 (.agg #[.int .i64 0, .int .i64 0, .string ⟨#[]⟩]) 3 32 := by unfold Elem; kernel_rfl
set_option maxRecDepth 100000 in
theorem listI_r (g : Nat) (B : Option Addr) (cB : Nat) (D : List UInt8) (k : Nat) (f : Bool) (most : Int) (H : Heap) (h : Rdr H g B cB D k f) (hm : most ≤ 1000000) :
    CallsH Try.prog 97 [.pointer (some ⟨g, 0, none⟩), .int .i64 most, .func (.func 90) #[.pointer (some ⟨g, 0, none⟩)] #[]] H fun v H' => RP (pList rdI most) (VL eInt 3 H.size P64) UL g B cB D k f H v H' := by
  refine callsH_of Try.func97 rfl Try.ntmps97 (Nat.le_of_ble_eq_true rfl) ?_
  refine wpSeq fun F1 hF1 => ?_
  refine wpRegion ?_
  refine seqQ rfl rfl (yAssign (v := .slice _ _ _) rfl rfl) ?_
  refine seqNil ?_
  refine hF1 _ _ ?_; clear hF1
  refine wpSeq fun F2 hF2 => ?_
  refine wpRegion ?_
  refine seqQ rfl rfl (yMove (v := .pointer _) rfl rfl) ?_
  refine seqQ rfl rfl (yMove (v := .int _ _) rfl rfl) ?_
  -- e slot 12: call F104<(*farandole/wire.Reader).bounded> t10 [i:i64:0] t11
  refine seqE rfl rfl (stepCall rfl Try.call104 rfl ?_)
  refine (bounded_c g B cB D k f 0 most H h).mono ?_
  rintro v H1 hr
  obtain ⟨hK1, f1, k1, h1, hc1⟩ := hr.flat
  obtain ⟨n, rfl, hd1⟩ : ∃ n, v = .int .i64 n ∧ ((f1 = true ∧ prs (pBnd 0 most) f D k = none) ∨ (f1 = false ∧ prs (pBnd 0 most) f D k = some (n, D.drop k1) ∧ 0 ≤ n ∧ n ≤ most)) := by
    rcases hc1 with ⟨h, h', z, rfl⟩ | ⟨h, a, h', rfl, h2, h3⟩
    · exact ⟨z, rfl, .inl ⟨h, h'⟩⟩
    · exact ⟨a, rfl, .inr ⟨h, h', h2, h3⟩⟩
  have s1 := hK1.size
  have lg := h.blk.lt
  refine seqQ rfl rfl (yAssign (v := .int _ _) rfl rfl) ?_
  refine seqNil ?_
  refine hF2 _ _ ?_; clear hF2
  refine wpSeq fun F3 hF3 => ?_
  refine wpRegion ?_
  refine seqQ rfl rfl (yAssign (v := .slice _ _ _) rfl rfl) ?_
  refine seqNil ?_
  refine hF3 _ _ ?_; clear hF3
  refine wpSeq fun F4 hF4 => ?_
  refine wpSeq fun F5 hF5 => ?_
  refine wpRegion ?_
  refine seqQ rfl rfl (yAssign (v := .int _ _) rfl rfl) ?_
  refine seqNil ?_
  refine hF5 _ _ ?_; clear hF5
  -- loop
  refine wpBlock ?_
  refine wpLoopS [8, 9, 13, 14, 15, 16, 17, 18, 19, 20, 21, 22, 23, 24, 25, 26, 27, 28, 29] (fun x : Nat × Value × List Int × Bool × Nat => [(9, .int .i64 x.1), (8, x.2.1)]) (fun x H' => Keep [g] H H' ∧ Rdr H' g B cB D x.2.2.2.2 x.2.2.2.1 ∧ Own eInt 3 H' H.size x.2.1 x.2.2.1 ∧ (x.2.2.2.1 = false → ∀ y ∈ x.2.2.1, P64 y) ∧ (f1 = true → x.1 = 0 ∧ x.2.2.2.1 = true) ∧ (f1 = false → (x.1 : Int) ≤ n ∧ x.2.2.1.length = x.1 ∧ (x.2.2.2.1 = false → pN rdI n.toNat (D.drop k1) = (pN rdI (n.toNat - x.1) (D.drop x.2.2.2.2)).map fun y => (x.2.2.1 ++ y.1, y.2)) ∧ (x.2.2.2.1 = true → pN rdI n.toNat (D.drop k1) = none))) (fun x => n.toNat - x.1) (0, .slice none 0 0, [], f1, k1) ⟨rfl, rfl, trivial⟩ ⟨hK1, h1, Own.nil _ _, (fun _ y hy => by simp at hy), fun h => ⟨rfl, h⟩, fun h => ?_⟩ ?_
  · rcases hd1 with ⟨h', _⟩ | ⟨-, _, h0, _⟩
    · rw [h] at h'; cases h'
    · dsimp only
      refine ⟨by omega, rfl, fun _ => by simp, fun h' => by rw [h] at h'; cases h'⟩
  rintro ⟨i, v, l, f2, k2⟩ J H2 ⟨hK2, h2, ho, hQ, hf1, hff⟩
  dsimp only at hK2 h2 ho hQ hf1 hff
  have s2 := hK2.size
  obtain ⟨A, c, rfl, -⟩ := ho.form
  refine wpSeq fun F6 hF6 => ?_
  refine wpSeq fun F7 hF7 => ?_
  refine wpRegion ?_
  refine seqQ rfl rfl (yMove (v := .int _ _) rfl rfl) ?_
  refine seqQ rfl rfl (yMove (v := .int _ _) rfl rfl) ?_
  refine seqQ rfl rfl (yLss rfl rfl rfl) ?_
  -- guard t16
  cases f1
  · obtain ⟨hin, hll, hst, hsf⟩ := hff rfl
    rcases hd1 with ⟨h', _⟩ | ⟨-, hp1, hn0, hnm⟩
    · cases h'
    obtain ⟨hf0, hq1⟩ := prs_ff hp1
    subst hf0
    by_cases hlt : i < n.toNat
    · skip
      rw [show (decide ((i : Int) < n)) = true by simp; omega]
      cases f2
      · skip
        refine seqQ rfl rfl (yMove (v := .bool true) rfl rfl) ?_
        refine seqQ rfl rfl (yMove (v := .pointer _) rfl rfl) ?_
        refine seqQ rfl rfl (yNilCheck rfl rfl) ?_
        refine seqQ rfl rfl (yFieldAddr rfl Try.underlying134 rfl Try.sizeOf4 rfl rfl) ?_
        refine seqQ rfl rfl (yLoad rfl Try.underlying4 rfl rfl (h2.blk.cell rfl)) ?_
        refine seqQ rfl rfl (yNot rfl rfl) ?_
        refine seqQ rfl rfl (yPickT (v := .bool _) rfl rfl rfl) ?_
        refine seqNil ?_
        refine hF7 _ _ ?_; clear hF7
        -- if t22
        refine wpT rfl ?_
        refine wpSkip ?_
        refine hF6 _ _ ?_; clear hF6
        refine wpSeq fun F8 hF8 => ?_
        refine wpBlock ?_
        refine wpRegion ?_
        refine seqQ rfl rfl (yMove (v := .slice _ _ _) rfl rfl) ?_
        refine seqQ rfl rfl (yMove (v := .func _ _ _) rfl rfl) ?_
        -- e slot 27: callv t26 
        refine seqE rfl rfl (stepCallV (first := [.pointer (some ⟨g, 0, none⟩)]) (cap := []) rfl Try.call90 rfl rfl ?_)
        refine (integer_c g B cB D k2 false H2 h2).mono ?_
        rintro w H3 hr3
        obtain ⟨hK3, f3, k3, h3, hc3⟩ := hr3.flat
        have ho3 := ho.keep hK3 (fun b hb => by have := (ho.lt b hb).1; simp; omega)
        have hst := hst rfl
        have hni : n.toNat - i = (n.toNat - (i + 1)) + 1 := by omega
        rw [hni] at hst
        obtain ⟨a, rfl, hqa, hd3⟩ : ∃ a, w = .int .i64 a ∧ (f3 = false → P64 a) ∧ ((f3 = true ∧ rdI (D.drop k2) = none) ∨ (f3 = false ∧ rdI (D.drop k2) = some (a, D.drop k3))) := by
          rcases hc3 with ⟨h, h', z, rfl⟩ | ⟨h, a, h', rfl, h2⟩
          · exact ⟨z, rfl, fun h' => (by rw [h] at h'; cases h'), .inl ⟨h, h'⟩⟩
          · exact ⟨a, rfl, fun _ => h2, .inr ⟨h, h'⟩⟩
        have s3 := hK3.size
        refine seqN rfl rfl (nBuildSlice (vs := [.int _ _]) rfl Try.underlying25 Try.sizeOf3 Try.zeroValue3 rfl rfl rfl rfl) (fun g28 H28 hx28 hB28 hg28 hl28 => ?_)
        -- e slot 29: builtin append t25 t28 : [25, 25]
        refine seqE rfl rfl (stepApp (c := eInt) (ho3.ext hx28) rfl Try.underlying25 elem_eInt rfl (by omega) rfl rfl rfl (Blk.rd (c := eInt) (l := [a]) hB28) (by simp; omega) (by have := hx28.size; omega) ?_)
        intro v' H4 ho4 hg4
        have h4 : Rdr H4 g B cB D k3 f3 := by
          have h3' := h3.ext hx28
          cases hov : (Value.slice A l.length c).ownBlock with
          | none =>
            have hk := hg4.1
            rw [hov] at hk
            exact h3'.ext hk.ext
          | some gb =>
            have hk := hg4.1
            rw [hov] at hk
            exact h3'.new h (by simpa using hk) (ho.lt gb hov).1
        have hK4 : Keep [g] H H4 := keepGrew (hK2.trans hK3) hx28 hg4 (fun gb hb => (ho.lt gb hb).1)
        obtain ⟨A', c', rfl, -⟩ := ho4.form
        refine seqQ rfl rfl (yAssign (v := .slice _ _ _) rfl rfl) ?_
        refine seqNil ?_
        refine hF8 _ _ ?_; clear hF8
        refine wpRegion ?_
        refine seqQ rfl rfl (yMove (v := .int _ _) rfl rfl) ?_
        refine seqQ rfl rfl (yAdd rfl rfl rfl (by unfold In64; omega)) ?_
        refine seqQ rfl rfl (yAssign (v := .int _ _) rfl rfl) ?_
        refine seqNil ?_
        -- end loop
        refine loopEnd (i + 1, _, l ++ [a], f3, k3) (by repeat (first | (with_reducible exact Agree.refl _ _) | refine Agree.upd ?_ rfl | refine Agree.over ?_ rfl)) (by dsimp only; omega) ⟨rfl, rfl, trivial⟩ ⟨?_, h4, ho4, ?_, (fun h => by cases h), fun _ => ⟨by dsimp only; omega, by simp [hll], fun hf3 => ?_, fun hf3 => ?_⟩⟩
        · exact hK4
        · dsimp only
          intro hf3 y hy
          rcases List.mem_append.1 hy with hy | hy
          · exact hQ rfl y hy
          · simp at hy
            subst hy
            exact hqa hf3
        · dsimp only at hf3 ⊢
          rcases hd3 with ⟨h', _⟩ | ⟨-, hp3⟩
          · rw [hf3] at h'; cases h'
          · rw [hst]
            exact pN_step hp3 l
        · dsimp only at hf3 ⊢
          rcases hd3 with ⟨-, hp3⟩ | ⟨h', _⟩
          · rw [hst]
            exact pN_stop hp3 l
          · rw [hf3] at h'; cases h'
      · skip
        refine seqQ rfl rfl (yMove (v := .bool true) rfl rfl) ?_
        refine seqQ rfl rfl (yMove (v := .pointer _) rfl rfl) ?_
        refine seqQ rfl rfl (yNilCheck rfl rfl) ?_
        refine seqQ rfl rfl (yFieldAddr rfl Try.underlying134 rfl Try.sizeOf4 rfl rfl) ?_
        refine seqQ rfl rfl (yLoad rfl Try.underlying4 rfl rfl (h2.blk.cell rfl)) ?_
        refine seqQ rfl rfl (yNot rfl rfl) ?_
        refine seqQ rfl rfl (yPickT (v := .bool _) rfl rfl rfl) ?_
        refine seqNil ?_
        refine hF7 _ _ ?_; clear hF7
        -- if t22
        refine wpF rfl ?_
        refine wpExit ?_
        refine hF4 _ _ ?_; clear hF4
        refine wpSeq fun F9 hF9 => ?_
        refine wpRegion ?_
        refine seqQ rfl rfl (yMove (v := .slice _ _ _) rfl rfl) ?_
        refine seqQ rfl rfl (yAssign (v := .slice _ _ _) rfl rfl) ?_
        refine seqNil ?_
        refine hF9 _ _ ?_; clear hF9
        -- ret
        refine wpRet (fin1 (v := .slice _ _ _) rfl rfl ?_)
        refine RP.fail hK2 ?_ h2 ⟨_, _, _, rfl⟩
        rw [prs_f]
        unfold pList
        rw [hq1]
        exact hsf rfl
    · skip
      rw [show (decide ((i : Int) < n)) = false by simp; omega]
      refine seqQ rfl rfl (yMove (v := .bool false) rfl rfl) ?_
      refine seqU rfl rfl ?_
      refine seqU rfl rfl ?_
      refine seqU rfl rfl ?_
      refine seqU rfl rfl ?_
      refine seqU rfl rfl ?_
      refine seqQ rfl rfl (yPickF (v := .bool _) rfl rfl rfl) ?_
      refine seqNil ?_
      refine hF7 _ _ ?_; clear hF7
      -- if t22
      refine wpF rfl ?_
      refine wpExit ?_
      refine hF4 _ _ ?_; clear hF4
      refine wpSeq fun F10 hF10 => ?_
      refine wpRegion ?_
      refine seqQ rfl rfl (yMove (v := .slice _ _ _) rfl rfl) ?_
      refine seqQ rfl rfl (yAssign (v := .slice _ _ _) rfl rfl) ?_
      refine seqNil ?_
      refine hF10 _ _ ?_; clear hF10
      -- ret
      refine wpRet (fin1 (v := .slice _ _ _) rfl rfl ?_)
      cases f2
      · have hst := hst rfl
        have hni : n.toNat - i = 0 := by omega
        rw [hni] at hst
        refine RP.good (a := l) hK2 ?_ h2 ⟨ho, hQ rfl⟩
        unfold pList
        rw [hq1]
        simp only [Option.bind_some]
        rw [hst]
        simp [pN]
      · refine RP.fail hK2 ?_ h2 ⟨_, _, _, rfl⟩
        rw [prs_f]
        unfold pList
        rw [hq1]
        exact hsf rfl
  · obtain ⟨hi0, hf2⟩ := hf1 rfl
    subst hi0 hf2
    rcases hd1 with ⟨-, hp1⟩ | ⟨h', _⟩
    · skip
      have hfail : prs (pList rdI most) f D k = none := by
        cases f
        · rw [prs_f] at hp1 ⊢
          unfold pList
          rw [hp1]
          rfl
        · rfl
      by_cases hlt : (0 : Int) < n
      · rw [show (decide (((0 : Nat) : Int) < n)) = true by simp; omega]
        refine seqQ rfl rfl (yMove (v := .bool true) rfl rfl) ?_
        refine seqQ rfl rfl (yMove (v := .pointer _) rfl rfl) ?_
        refine seqQ rfl rfl (yNilCheck rfl rfl) ?_
        refine seqQ rfl rfl (yFieldAddr rfl Try.underlying134 rfl Try.sizeOf4 rfl rfl) ?_
        refine seqQ rfl rfl (yLoad rfl Try.underlying4 rfl rfl (h2.blk.cell rfl)) ?_
        refine seqQ rfl rfl (yNot rfl rfl) ?_
        refine seqQ rfl rfl (yPickT (v := .bool _) rfl rfl rfl) ?_
        refine seqNil ?_
        refine hF7 _ _ ?_; clear hF7
        -- if t22
        refine wpF rfl ?_
        refine wpExit ?_
        refine hF4 _ _ ?_; clear hF4
        refine wpSeq fun F11 hF11 => ?_
        refine wpRegion ?_
        refine seqQ rfl rfl (yMove (v := .slice _ _ _) rfl rfl) ?_
        refine seqQ rfl rfl (yAssign (v := .slice _ _ _) rfl rfl) ?_
        refine seqNil ?_
        refine hF11 _ _ ?_; clear hF11
        -- ret
        refine wpRet (fin1 (v := .slice _ _ _) rfl rfl ?_)
        exact RP.fail hK2 hfail h2 ⟨_, _, _, rfl⟩
      · rw [show (decide (((0 : Nat) : Int) < n)) = false by simp; omega]
        refine seqQ rfl rfl (yMove (v := .bool false) rfl rfl) ?_
        refine seqU rfl rfl ?_
        refine seqU rfl rfl ?_
        refine seqU rfl rfl ?_
        refine seqU rfl rfl ?_
        refine seqU rfl rfl ?_
        refine seqQ rfl rfl (yPickF (v := .bool _) rfl rfl rfl) ?_
        refine seqNil ?_
        refine hF7 _ _ ?_; clear hF7
        -- if t22
        refine wpF rfl ?_
        refine wpExit ?_
        refine hF4 _ _ ?_; clear hF4
        refine wpSeq fun F12 hF12 => ?_
        refine wpRegion ?_
        refine seqQ rfl rfl (yMove (v := .slice _ _ _) rfl rfl) ?_
        refine seqQ rfl rfl (yAssign (v := .slice _ _ _) rfl rfl) ?_
        refine seqNil ?_
        refine hF12 _ _ ?_; clear hF12
        -- ret
        refine wpRet (fin1 (v := .slice _ _ _) rfl rfl ?_)
        exact RP.fail hK2 hfail h2 ⟨_, _, _, rfl⟩
    · cases h'
set_option maxRecDepth 100000 in
theorem listV_r (g : Nat) (B : Option Addr) (cB : Nat) (D : List UInt8) (k : Nat) (f : Bool) (most : Int) (H : Heap) (h : Rdr H g B cB D k f) (hm : most ≤ 1000000) :
    CallsH Try.prog 93 [.pointer (some ⟨g, 0, none⟩), .int .i64 most, .func (.func 94) #[.pointer (some ⟨g, 0, none⟩)] #[]] H fun v H' => RP (pList pVal most) (VL eWV 80 H.size OkW) UL g B cB D k f H v H' := by
  refine callsH_of Try.func93 rfl Try.ntmps93 (Nat.le_of_ble_eq_true rfl) ?_
  refine wpSeq fun F1 hF1 => ?_
  refine wpRegion ?_
  refine seqQ rfl rfl (yAssign (v := .slice _ _ _) rfl rfl) ?_
  refine seqNil ?_
  refine hF1 _ _ ?_; clear hF1
  refine wpSeq fun F2 hF2 => ?_
  refine wpRegion ?_
  refine seqQ rfl rfl (yMove (v := .pointer _) rfl rfl) ?_
  refine seqQ rfl rfl (yMove (v := .int _ _) rfl rfl) ?_
  -- e slot 12: call F104<(*farandole/wire.Reader).bounded> t10 [i:i64:0] t11
  refine seqE rfl rfl (stepCall rfl Try.call104 rfl ?_)
  refine (bounded_c g B cB D k f 0 most H h).mono ?_
  rintro v H1 hr
  obtain ⟨hK1, f1, k1, h1, hc1⟩ := hr.flat
  obtain ⟨n, rfl, hd1⟩ : ∃ n, v = .int .i64 n ∧ ((f1 = true ∧ prs (pBnd 0 most) f D k = none) ∨ (f1 = false ∧ prs (pBnd 0 most) f D k = some (n, D.drop k1) ∧ 0 ≤ n ∧ n ≤ most)) := by
    rcases hc1 with ⟨h, h', z, rfl⟩ | ⟨h, a, h', rfl, h2, h3⟩
    · exact ⟨z, rfl, .inl ⟨h, h'⟩⟩
    · exact ⟨a, rfl, .inr ⟨h, h', h2, h3⟩⟩
  have s1 := hK1.size
  have lg := h.blk.lt
  refine seqQ rfl rfl (yAssign (v := .int _ _) rfl rfl) ?_
  refine seqNil ?_
  refine hF2 _ _ ?_; clear hF2
  refine wpSeq fun F3 hF3 => ?_
  refine wpRegion ?_
  refine seqQ rfl rfl (yAssign (v := .slice _ _ _) rfl rfl) ?_
  refine seqNil ?_
  refine hF3 _ _ ?_; clear hF3
  refine wpSeq fun F4 hF4 => ?_
  refine wpSeq fun F5 hF5 => ?_
  refine wpRegion ?_
  refine seqQ rfl rfl (yAssign (v := .int _ _) rfl rfl) ?_
  refine seqNil ?_
  refine hF5 _ _ ?_; clear hF5
  -- loop
  refine wpBlock ?_
  refine wpLoopS [8, 9, 13, 14, 15, 16, 17, 18, 19, 20, 21, 22, 23, 24, 25, 26, 27, 28, 29] (fun x : Nat × Value × List Val × Bool × Nat => [(9, .int .i64 x.1), (8, x.2.1)]) (fun x H' => Keep [g] H H' ∧ Rdr H' g B cB D x.2.2.2.2 x.2.2.2.1 ∧ Own eWV 80 H' H.size x.2.1 x.2.2.1 ∧ (x.2.2.2.1 = false → ∀ y ∈ x.2.2.1, OkW y) ∧ (f1 = true → x.1 = 0 ∧ x.2.2.2.1 = true) ∧ (f1 = false → (x.1 : Int) ≤ n ∧ x.2.2.1.length = x.1 ∧ (x.2.2.2.1 = false → pN pVal n.toNat (D.drop k1) = (pN pVal (n.toNat - x.1) (D.drop x.2.2.2.2)).map fun y => (x.2.2.1 ++ y.1, y.2)) ∧ (x.2.2.2.1 = true → pN pVal n.toNat (D.drop k1) = none))) (fun x => n.toNat - x.1) (0, .slice none 0 0, [], f1, k1) ⟨rfl, rfl, trivial⟩ ⟨hK1, h1, Own.nil _ _, (fun _ y hy => by simp at hy), fun h => ⟨rfl, h⟩, fun h => ?_⟩ ?_
  · rcases hd1 with ⟨h', _⟩ | ⟨-, _, h0, _⟩
    · rw [h] at h'; cases h'
    · dsimp only
      refine ⟨by omega, rfl, fun _ => by simp, fun h' => by rw [h] at h'; cases h'⟩
  rintro ⟨i, v, l, f2, k2⟩ J H2 ⟨hK2, h2, ho, hQ, hf1, hff⟩
  dsimp only at hK2 h2 ho hQ hf1 hff
  have s2 := hK2.size
  obtain ⟨A, c, rfl, -⟩ := ho.form
  refine wpSeq fun F6 hF6 => ?_
  refine wpSeq fun F7 hF7 => ?_
  refine wpRegion ?_
  refine seqQ rfl rfl (yMove (v := .int _ _) rfl rfl) ?_
  refine seqQ rfl rfl (yMove (v := .int _ _) rfl rfl) ?_
  refine seqQ rfl rfl (yLss rfl rfl rfl) ?_
  -- guard t16
  cases f1
  · obtain ⟨hin, hll, hst, hsf⟩ := hff rfl
    rcases hd1 with ⟨h', _⟩ | ⟨-, hp1, hn0, hnm⟩
    · cases h'
    obtain ⟨hf0, hq1⟩ := prs_ff hp1
    subst hf0
    by_cases hlt : i < n.toNat
    · skip
      rw [show (decide ((i : Int) < n)) = true by simp; omega]
      cases f2
      · skip
        refine seqQ rfl rfl (yMove (v := .bool true) rfl rfl) ?_
        refine seqQ rfl rfl (yMove (v := .pointer _) rfl rfl) ?_
        refine seqQ rfl rfl (yNilCheck rfl rfl) ?_
        refine seqQ rfl rfl (yFieldAddr rfl Try.underlying134 rfl Try.sizeOf4 rfl rfl) ?_
        refine seqQ rfl rfl (yLoad rfl Try.underlying4 rfl rfl (h2.blk.cell rfl)) ?_
        refine seqQ rfl rfl (yNot rfl rfl) ?_
        refine seqQ rfl rfl (yPickT (v := .bool _) rfl rfl rfl) ?_
        refine seqNil ?_
        refine hF7 _ _ ?_; clear hF7
        -- if t22
        refine wpT rfl ?_
        refine wpSkip ?_
        refine hF6 _ _ ?_; clear hF6
        refine wpSeq fun F8 hF8 => ?_
        refine wpBlock ?_
        refine wpRegion ?_
        refine seqQ rfl rfl (yMove (v := .slice _ _ _) rfl rfl) ?_
        refine seqQ rfl rfl (yMove (v := .func _ _ _) rfl rfl) ?_
        -- e slot 27: callv t26 
        refine seqE rfl rfl (stepCallV (first := [.pointer (some ⟨g, 0, none⟩)]) (cap := []) rfl Try.call94 rfl rfl ?_)
        refine (value_r g B cB D k2 false H2 h2).mono ?_
        rintro w H3 hr3
        obtain ⟨hK3, f3, k3, h3, hc3⟩ := hr3.flat
        have ho3 := ho.keep hK3 (fun b hb => by have := (ho.lt b hb).1; simp; omega)
        have hst := hst rfl
        have hni : n.toNat - i = (n.toNat - (i + 1)) + 1 := by omega
        rw [hni] at hst
        obtain ⟨a, rfl, hqa, hd3⟩ : ∃ a : Val, w = .agg (eWV.F a).toArray ∧ (f3 = false → OkW a) ∧ ((f3 = true ∧ pVal (D.drop k2) = none) ∨ (f3 = false ∧ pVal (D.drop k2) = some (a, D.drop k3))) := by
          rcases hc3 with ⟨h, h', z, rfl⟩ | ⟨h, a, h', rfl, h2⟩
          · exact ⟨z, rfl, fun h' => (by rw [h] at h'; cases h'), .inl ⟨h, h'⟩⟩
          · exact ⟨a, rfl, fun _ => h2, .inr ⟨h, h'⟩⟩
        have s3 := hK3.size
        refine seqN rfl rfl (nBuildSliceN (vs := [.agg _]) rfl Try.underlying24 Try.sizeOf80 Try.zeroValue80 rfl rfl rfl rfl rfl) (fun g28 H28 hx28 hB28 hg28 hl28 => ?_)
        -- e slot 29: builtin append t25 t28 : [24, 24]
        refine seqE rfl rfl (stepApp (c := eWV) (ho3.ext hx28) rfl Try.underlying24 elem_eWV rfl (by omega) rfl rfl rfl (Blk.rd (c := eWV) (l := [a]) hB28) (by simp; omega) (by have := hx28.size; omega) ?_)
        intro v' H4 ho4 hg4
        have h4 : Rdr H4 g B cB D k3 f3 := by
          have h3' := h3.ext hx28
          cases hov : (Value.slice A l.length c).ownBlock with
          | none =>
            have hk := hg4.1
            rw [hov] at hk
            exact h3'.ext hk.ext
          | some gb =>
            have hk := hg4.1
            rw [hov] at hk
            exact h3'.new h (by simpa using hk) (ho.lt gb hov).1
        have hK4 : Keep [g] H H4 := keepGrew (hK2.trans hK3) hx28 hg4 (fun gb hb => (ho.lt gb hb).1)
        obtain ⟨A', c', rfl, -⟩ := ho4.form
        refine seqQ rfl rfl (yAssign (v := .slice _ _ _) rfl rfl) ?_
        refine seqNil ?_
        refine hF8 _ _ ?_; clear hF8
        refine wpRegion ?_
        refine seqQ rfl rfl (yMove (v := .int _ _) rfl rfl) ?_
        refine seqQ rfl rfl (yAdd rfl rfl rfl (by unfold In64; omega)) ?_
        refine seqQ rfl rfl (yAssign (v := .int _ _) rfl rfl) ?_
        refine seqNil ?_
        -- end loop
        refine loopEnd (i + 1, _, l ++ [a], f3, k3) (by repeat (first | (with_reducible exact Agree.refl _ _) | refine Agree.upd ?_ rfl | refine Agree.over ?_ rfl)) (by dsimp only; omega) ⟨rfl, rfl, trivial⟩ ⟨?_, h4, ho4, ?_, (fun h => by cases h), fun _ => ⟨by dsimp only; omega, by simp [hll], fun hf3 => ?_, fun hf3 => ?_⟩⟩
        · exact hK4
        · dsimp only
          intro hf3 y hy
          rcases List.mem_append.1 hy with hy | hy
          · exact hQ rfl y hy
          · simp at hy
            subst hy
            exact hqa hf3
        · dsimp only at hf3 ⊢
          rcases hd3 with ⟨h', _⟩ | ⟨-, hp3⟩
          · rw [hf3] at h'; cases h'
          · rw [hst]
            exact pN_step hp3 l
        · dsimp only at hf3 ⊢
          rcases hd3 with ⟨-, hp3⟩ | ⟨h', _⟩
          · rw [hst]
            exact pN_stop hp3 l
          · rw [hf3] at h'; cases h'
      · skip
        refine seqQ rfl rfl (yMove (v := .bool true) rfl rfl) ?_
        refine seqQ rfl rfl (yMove (v := .pointer _) rfl rfl) ?_
        refine seqQ rfl rfl (yNilCheck rfl rfl) ?_
        refine seqQ rfl rfl (yFieldAddr rfl Try.underlying134 rfl Try.sizeOf4 rfl rfl) ?_
        refine seqQ rfl rfl (yLoad rfl Try.underlying4 rfl rfl (h2.blk.cell rfl)) ?_
        refine seqQ rfl rfl (yNot rfl rfl) ?_
        refine seqQ rfl rfl (yPickT (v := .bool _) rfl rfl rfl) ?_
        refine seqNil ?_
        refine hF7 _ _ ?_; clear hF7
        -- if t22
        refine wpF rfl ?_
        refine wpExit ?_
        refine hF4 _ _ ?_; clear hF4
        refine wpSeq fun F9 hF9 => ?_
        refine wpRegion ?_
        refine seqQ rfl rfl (yMove (v := .slice _ _ _) rfl rfl) ?_
        refine seqQ rfl rfl (yAssign (v := .slice _ _ _) rfl rfl) ?_
        refine seqNil ?_
        refine hF9 _ _ ?_; clear hF9
        -- ret
        refine wpRet (fin1 (v := .slice _ _ _) rfl rfl ?_)
        refine RP.fail hK2 ?_ h2 ⟨_, _, _, rfl⟩
        rw [prs_f]
        unfold pList
        rw [hq1]
        exact hsf rfl
    · skip
      rw [show (decide ((i : Int) < n)) = false by simp; omega]
      refine seqQ rfl rfl (yMove (v := .bool false) rfl rfl) ?_
      refine seqU rfl rfl ?_
      refine seqU rfl rfl ?_
      refine seqU rfl rfl ?_
      refine seqU rfl rfl ?_
      refine seqU rfl rfl ?_
      refine seqQ rfl rfl (yPickF (v := .bool _) rfl rfl rfl) ?_
      refine seqNil ?_
      refine hF7 _ _ ?_; clear hF7
      -- if t22
      refine wpF rfl ?_
      refine wpExit ?_
      refine hF4 _ _ ?_; clear hF4
      refine wpSeq fun F10 hF10 => ?_
      refine wpRegion ?_
      refine seqQ rfl rfl (yMove (v := .slice _ _ _) rfl rfl) ?_
      refine seqQ rfl rfl (yAssign (v := .slice _ _ _) rfl rfl) ?_
      refine seqNil ?_
      refine hF10 _ _ ?_; clear hF10
      -- ret
      refine wpRet (fin1 (v := .slice _ _ _) rfl rfl ?_)
      cases f2
      · have hst := hst rfl
        have hni : n.toNat - i = 0 := by omega
        rw [hni] at hst
        refine RP.good (a := l) hK2 ?_ h2 ⟨ho, hQ rfl⟩
        unfold pList
        rw [hq1]
        simp only [Option.bind_some]
        rw [hst]
        simp [pN]
      · refine RP.fail hK2 ?_ h2 ⟨_, _, _, rfl⟩
        rw [prs_f]
        unfold pList
        rw [hq1]
        exact hsf rfl
  · obtain ⟨hi0, hf2⟩ := hf1 rfl
    subst hi0 hf2
    rcases hd1 with ⟨-, hp1⟩ | ⟨h', _⟩
    · skip
      have hfail : prs (pList pVal most) f D k = none := by
        cases f
        · rw [prs_f] at hp1 ⊢
          unfold pList
          rw [hp1]
          rfl
        · rfl
      by_cases hlt : (0 : Int) < n
      · rw [show (decide (((0 : Nat) : Int) < n)) = true by simp; omega]
        refine seqQ rfl rfl (yMove (v := .bool true) rfl rfl) ?_
        refine seqQ rfl rfl (yMove (v := .pointer _) rfl rfl) ?_
        refine seqQ rfl rfl (yNilCheck rfl rfl) ?_
        refine seqQ rfl rfl (yFieldAddr rfl Try.underlying134 rfl Try.sizeOf4 rfl rfl) ?_
        refine seqQ rfl rfl (yLoad rfl Try.underlying4 rfl rfl (h2.blk.cell rfl)) ?_
        refine seqQ rfl rfl (yNot rfl rfl) ?_
        refine seqQ rfl rfl (yPickT (v := .bool _) rfl rfl rfl) ?_
        refine seqNil ?_
        refine hF7 _ _ ?_; clear hF7
        -- if t22
        refine wpF rfl ?_
        refine wpExit ?_
        refine hF4 _ _ ?_; clear hF4
        refine wpSeq fun F11 hF11 => ?_
        refine wpRegion ?_
        refine seqQ rfl rfl (yMove (v := .slice _ _ _) rfl rfl) ?_
        refine seqQ rfl rfl (yAssign (v := .slice _ _ _) rfl rfl) ?_
        refine seqNil ?_
        refine hF11 _ _ ?_; clear hF11
        -- ret
        refine wpRet (fin1 (v := .slice _ _ _) rfl rfl ?_)
        exact RP.fail hK2 hfail h2 ⟨_, _, _, rfl⟩
      · rw [show (decide (((0 : Nat) : Int) < n)) = false by simp; omega]
        refine seqQ rfl rfl (yMove (v := .bool false) rfl rfl) ?_
        refine seqU rfl rfl ?_
        refine seqU rfl rfl ?_
        refine seqU rfl rfl ?_
        refine seqU rfl rfl ?_
        refine seqU rfl rfl ?_
        refine seqQ rfl rfl (yPickF (v := .bool _) rfl rfl rfl) ?_
        refine seqNil ?_
        refine hF7 _ _ ?_; clear hF7
        -- if t22
        refine wpF rfl ?_
        refine wpExit ?_
        refine hF4 _ _ ?_; clear hF4
        refine wpSeq fun F12 hF12 => ?_
        refine wpRegion ?_
        refine seqQ rfl rfl (yMove (v := .slice _ _ _) rfl rfl) ?_
        refine seqQ rfl rfl (yAssign (v := .slice _ _ _) rfl rfl) ?_
        refine seqNil ?_
        refine hF12 _ _ ?_; clear hF12
        -- ret
        refine wpRet (fin1 (v := .slice _ _ _) rfl rfl ?_)
        exact RP.fail hK2 hfail h2 ⟨_, _, _, rfl⟩
    · cases h'
end Go.Proofs.Ytcfnmklbkhibgaa
