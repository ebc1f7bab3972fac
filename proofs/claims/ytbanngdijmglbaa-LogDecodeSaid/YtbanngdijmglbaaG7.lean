/- The document's reader: lists, the end; a sealed byte string opened. -/
import Derived.Test.YtbanngdijmglbaaG6
namespace Go.Proofs.Ytbanngdijmglbaa
open Go.RowKit

/-- What a method that reads a list leaves. -/
def RL {α : Type} (p : List UInt8 → Option (α × List UInt8)) (most : Int) (c : El α) (e : TypeId) (Q : α → Prop) (g : Nat) (B : Option Addr) (cB : Nat) (D : List UInt8) (k : Nat) (f : Bool) (H : Heap) (v : Value) (H' : Heap) : Prop :=
  Keep [g] H H' ∧ ∃ (l : List α) (A : Option Addr) (cp : Nat) (f' : Bool) (k' : Nat), v = .slice A l.length cp ∧ RRd H' g B cB D k' f' ∧ Own c e H' H.size (.slice A l.length cp) l ∧ ((f' = true ∧ prs (pList p most) f D k = none) ∨ (f' = false ∧ prs (pList p most) f D k = some (l, D.drop k') ∧ ∀ x ∈ l, Q x))
set_option maxRecDepth 100000 in
theorem rInts01_c (g : Nat) (B : Option Addr) (cB : Nat) (D : List UInt8) (k : Nat) (f : Bool) (most : Int) (H : Heap) (h : RRd H g B cB D k f) (hm : most ≤ 1000000) :
    CallsH Try.prog 67 [.pointer (some ⟨g, 0, none⟩), .int .i64 most] H fun v H' => RL rdI most eInt 3 P64 g B cB D k f H v H' := by
  have hle := h.le
  refine callsH_of Try.func67 rfl Try.ntmps67 (Nat.le_of_ble_eq_true rfl) ?_
  refine wpSeq fun F1 hF1 => ?_
  refine wpRegion ?_
  refine seqQ rfl rfl (yAssign (v := .slice _ _ _) rfl rfl) ?_
  refine seqNil ?_
  refine hF1 _ _ ?_; clear hF1
  refine wpSeq fun F2 hF2 => ?_
  refine wpRegion ?_
  refine seqQ rfl rfl (yMove (v := .pointer _) rfl rfl) ?_
  refine seqQ rfl rfl (yNilCheck rfl rfl) ?_
  refine seqQ rfl rfl (yFieldAddr rfl Try.underlying126 rfl Try.sizeOf3 rfl rfl) ?_
  refine seqQ rfl rfl (yLoad rfl Try.underlying3 rfl rfl (h.blk.cell rfl)) ?_
  refine seqQ rfl rfl (yAssign (v := .int _ _) rfl rfl) ?_
  refine seqNil ?_
  refine hF2 _ _ ?_; clear hF2
  refine wpSeq fun F3 hF3 => ?_
  refine wpRegion ?_
  refine seqQ rfl rfl (yMove (v := .pointer _) rfl rfl) ?_
  refine seqQ rfl rfl (yMove (v := .int _ _) rfl rfl) ?_
  -- e slot 15: call F65<(*farandole/farandoleref01.Reader).Bounded> t13 [i:i64:0] t14
  refine seqE rfl rfl (stepCall rfl Try.call65 rfl ?_)
  refine (rBnd01_c g B cB D k f 0 most H h).mono ?_
  rintro v H1 hr
  obtain ⟨n, f1, k1, rfl, h1, hK1, hd1⟩ : ∃ n f1 k1, v = .int .i64 n ∧ RRd H1 g B cB D k1 f1 ∧ Keep [g] H H1 ∧ ((f1 = true ∧ prs (pBnd 0 most) f D k = none ∧ n = 0) ∨ (f1 = false ∧ prs (pBnd 0 most) f D k = some (n, D.drop k1) ∧ 0 ≤ n ∧ n ≤ most)) := by
    obtain ⟨hK1, ⟨n, r, k', hp, rfl, h1, rfl, hn0, hnm⟩ | ⟨hp, ⟨k', h1⟩, rfl⟩⟩ := hr
    · exact ⟨n, false, k', rfl, h1, hK1, .inr ⟨rfl, hp, hn0, hnm⟩⟩
    · exact ⟨0, true, k', rfl, h1, hK1, .inl ⟨rfl, hp, rfl⟩⟩
  have s1 := hK1.size
  have lg := h.blk.lt
  refine seqQ rfl rfl (yAssign (v := .int _ _) rfl rfl) ?_
  refine seqNil ?_
  refine hF3 _ _ ?_; clear hF3
  refine wpSeq fun F4 hF4 => ?_
  refine wpRegion ?_
  refine seqQ rfl rfl (yAssign (v := .slice _ _ _) rfl rfl) ?_
  refine seqNil ?_
  refine hF4 _ _ ?_; clear hF4
  refine wpSeq fun F5 hF5 => ?_
  refine wpSeq fun F6 hF6 => ?_
  refine wpRegion ?_
  refine seqQ rfl rfl (yAssign (v := .int _ _) rfl rfl) ?_
  refine seqNil ?_
  refine hF6 _ _ ?_; clear hF6
  -- loop
  refine wpBlock ?_
  refine wpLoopS [7, 8, 16, 17, 18, 19, 20, 21, 22, 23, 24, 25, 26, 27, 28, 29, 30, 31, 32] (fun x : Nat × Value × List Int × Bool × Nat => [(8, .int .i64 x.1), (7, x.2.1)]) (fun x H' => Keep [g] H H' ∧ RRd H' g B cB D x.2.2.2.2 x.2.2.2.1 ∧ Own eInt 3 H' H.size x.2.1 x.2.2.1 ∧ (x.2.2.2.1 = false → ∀ y ∈ x.2.2.1, P64 y) ∧ (f1 = true → x.1 = 0 ∧ x.2.2.2.1 = true) ∧ (f1 = false → (x.1 : Int) ≤ n ∧ x.2.2.1.length = x.1 ∧ (x.2.2.2.1 = false → pN rdI n.toNat (D.drop k1) = (pN rdI (n.toNat - x.1) (D.drop x.2.2.2.2)).map fun y => (x.2.2.1 ++ y.1, y.2)) ∧ (x.2.2.2.1 = true → pN rdI n.toNat (D.drop k1) = none))) (fun x => n.toNat - x.1) (0, .slice none 0 0, [], f1, k1) ⟨rfl, rfl, trivial⟩ ⟨hK1, h1, Own.nil _ _, (fun _ y hy => by simp at hy), fun h => ⟨rfl, h⟩, fun h => ?_⟩ ?_
  · rcases hd1 with ⟨h', _⟩ | ⟨-, _, h0, _⟩
    · rw [h] at h'; cases h'
    · dsimp only
      refine ⟨by omega, rfl, fun _ => by simp, fun h' => by rw [h] at h'; cases h'⟩
  rintro ⟨i, v, l, f2, k2⟩ J H2 ⟨hK2, h2, ho, hQ, hf1, hff⟩
  dsimp only at hK2 h2 ho hQ hf1 hff
  have s2 := hK2.size
  obtain ⟨A, c, rfl, -⟩ := ho.form
  refine wpSeq fun F7 hF7 => ?_
  refine wpSeq fun F8 hF8 => ?_
  refine wpRegion ?_
  refine seqQ rfl rfl (yMove (v := .int _ _) rfl rfl) ?_
  refine seqQ rfl rfl (yMove (v := .int _ _) rfl rfl) ?_
  refine seqQ rfl rfl (yLss rfl rfl rfl) ?_
  -- guard t19
  cases f1
  · obtain ⟨hin, hll, hst, hsf⟩ := hff rfl
    rcases hd1 with ⟨h', _⟩ | ⟨-, hp1, hn0, hnm⟩
    · cases h'
    obtain ⟨hf0, hq1⟩ := prs_ff hp1
    subst hf0
    have hbad : f2 = true → prs (pList rdI most) false D k = none := fun e => by
      rw [prs_f]
      unfold pList
      rw [hq1]
      exact hsf e
    by_cases hlt : i < n.toNat
    · skip
      rw [show (decide ((i : Int) < n)) = true by simp; omega]
      cases f2
      · skip
        refine seqQ rfl rfl (yMove (v := .bool true) rfl rfl) ?_
        refine seqQ rfl rfl (yMove (v := .pointer _) rfl rfl) ?_
        refine seqQ rfl rfl (yNilCheck rfl rfl) ?_
        refine seqQ rfl rfl (yFieldAddr rfl Try.underlying126 rfl Try.sizeOf4 rfl rfl) ?_
        refine seqQ rfl rfl (yLoad rfl Try.underlying4 rfl rfl (h2.blk.cell rfl)) ?_
        refine seqQ rfl rfl (yNot rfl rfl) ?_
        refine seqQ rfl rfl (yPickT (v := .bool _) rfl rfl rfl) ?_
        refine seqNil ?_
        refine hF8 _ _ ?_; clear hF8
        -- if t25
        refine wpT rfl ?_
        refine wpSkip ?_
        refine hF7 _ _ ?_; clear hF7
        refine wpSeq fun F9 hF9 => ?_
        refine wpBlock ?_
        refine wpRegion ?_
        refine seqQ rfl rfl (yMove (v := .slice _ _ _) rfl rfl) ?_
        refine seqQ rfl rfl (yMove (v := .pointer _) rfl rfl) ?_
        -- e slot 30: call F95<(*farandole/farandoleref01.Reader).Int> t29
        refine seqE rfl rfl (stepCall rfl Try.call95 rfl ?_)
        refine (rInt01_c g B cB D k2 false H2 h2).mono ?_
        rintro w H3 hr3
        obtain ⟨hK3, a, f3, k3, rfl, h3, hqa, hd3⟩ := hr3.int
        have ho3 := ho.keep hK3 (fun b hb => by have := (ho.lt b hb).1; simp; omega)
        have hst := hst rfl
        have hni : n.toNat - i = (n.toNat - (i + 1)) + 1 := by omega
        rw [hni] at hst
        have s3 := hK3.size
        refine seqN rfl rfl (nBuildSlice (vs := [.int _ _]) rfl Try.underlying27 Try.sizeOf3 Try.zeroValue3 rfl rfl rfl rfl) (fun g31 H31 hx31 hB31 hg31 hl31 => ?_)
        -- e slot 32: builtin append t28 t31 : [27, 27]
        refine seqE rfl rfl (stepApp (c := eInt) (ho3.ext hx31) rfl Try.underlying27 elem_eInt rfl (by omega) rfl rfl rfl (Blk.rd (c := eInt) (l := [a]) hB31) (by simp; omega) (by have := hx31.size; omega) ?_)
        intro v' H4 ho4 hg4
        have h4 : RRd H4 g B cB D k3 f3 := by
          have h3' := h3.ext hx31
          cases hov : (Value.slice A l.length c).ownBlock with
          | none =>
            have hk := hg4.1
            rw [hov] at hk
            exact h3'.ext hk.ext
          | some gb =>
            have hk := hg4.1
            rw [hov] at hk
            exact h3'.new h (by simpa using hk) (ho.lt gb hov).1
        have hK4 : Keep [g] H H4 := keepGrew (hK2.trans hK3) hx31 hg4 (fun gb hb => (ho.lt gb hb).1)
        obtain ⟨A', c', rfl, -⟩ := ho4.form
        refine seqQ rfl rfl (yAssign (v := .slice _ _ _) rfl rfl) ?_
        refine seqNil ?_
        refine hF9 _ _ ?_; clear hF9
        refine wpRegion ?_
        refine seqQ rfl rfl (yMove (v := .int _ _) rfl rfl) ?_
        refine seqQ rfl rfl (yAdd rfl rfl rfl (by unfold In64; omega)) ?_
        refine seqQ rfl rfl (yAssign (v := .int _ _) rfl rfl) ?_
        refine seqNil ?_
        -- end loop
        refine loopEnd (i + 1, _, l ++ [a], f3, k3) (by repeat (first | (with_reducible exact Agree.refl _ _) | refine Agree.upd ?_ rfl | refine Agree.over ?_ rfl)) (by dsimp only; omega) ⟨rfl, rfl, trivial⟩ ⟨?_, h4, ho4, ?_, (fun h => by cases h), fun _ => ⟨by dsimp only; omega, by simp [hll], fun hf3 => ?_, fun hf3 => ?_⟩⟩
        · exact hK4
        · dsimp only
          intro hf3 y hy
          rcases List.mem_append.1 hy with hy | hy
          · exact hQ rfl y hy
          · simp at hy
            subst hy
            exact hqa hf3
        · dsimp only at hf3 ⊢
          rcases hd3 with ⟨h', _⟩ | ⟨-, hp3⟩
          · rw [hf3] at h'; cases h'
          · rw [hst]
            exact pN_step hp3 l
        · dsimp only at hf3 ⊢
          rcases hd3 with ⟨-, hp3⟩ | ⟨h', _⟩
          · rw [hst]
            exact pN_stop hp3 l
          · rw [hf3] at h'; cases h'
      · skip
        refine seqQ rfl rfl (yMove (v := .bool true) rfl rfl) ?_
        refine seqQ rfl rfl (yMove (v := .pointer _) rfl rfl) ?_
        refine seqQ rfl rfl (yNilCheck rfl rfl) ?_
        refine seqQ rfl rfl (yFieldAddr rfl Try.underlying126 rfl Try.sizeOf4 rfl rfl) ?_
        refine seqQ rfl rfl (yLoad rfl Try.underlying4 rfl rfl (h2.blk.cell rfl)) ?_
        refine seqQ rfl rfl (yNot rfl rfl) ?_
        refine seqQ rfl rfl (yPickT (v := .bool _) rfl rfl rfl) ?_
        refine seqNil ?_
        refine hF8 _ _ ?_; clear hF8
        -- if t25
        refine wpF rfl ?_
        refine wpExit ?_
        refine hF5 _ _ ?_; clear hF5
        refine wpSeq fun F10 hF10 => ?_
        refine wpSeq fun F11 hF11 => ?_
        refine wpRegion ?_
        refine seqQ rfl rfl (yMove (v := .pointer _) rfl rfl) ?_
        refine seqQ rfl rfl (yNilCheck rfl rfl) ?_
        refine seqQ rfl rfl (yFieldAddr rfl Try.underlying126 rfl Try.sizeOf4 rfl rfl) ?_
        refine seqQ rfl rfl (yLoad rfl Try.underlying4 rfl rfl (h2.blk.cell rfl)) ?_
        refine seqNil ?_
        refine hF11 _ _ ?_; clear hF11
        -- if t36
        refine wpT rfl ?_
        refine wpSeq fun F12 hF12 => ?_
        refine wpRegion ?_
        refine seqQ rfl rfl (yMove (v := .pointer _) rfl rfl) ?_
        refine seqQ rfl rfl (yMove (v := .int _ _) rfl rfl) ?_
        -- e slot 39: call F96<(*farandole/farandoleref01.Reader).fail> t37 t38
        refine seqE rfl rfl (stepCall rfl Try.call96 rfl ?_)
        refine (rFail01_c g B cB D k2 k true H2 h2 hle).mono ?_
        rintro v Hx ⟨rfl, hx, hKx⟩
        refine seqNil ?_
        refine hF12 _ _ ?_; clear hF12
        refine wpSeq fun F13 hF13 => ?_
        refine wpRegion ?_
        refine seqQ rfl rfl (yAssign (v := .slice _ _ _) rfl rfl) ?_
        refine seqNil ?_
        refine hF13 _ _ ?_; clear hF13
        -- ret
        refine wpRet (fin1 (v := .slice _ _ _) rfl rfl ?_)
        exact ⟨hK2.trans hKx, [], none, 0, true, k, rfl, hx, Own.nil _ _, .inl ⟨rfl, hbad rfl⟩⟩
    · skip
      rw [show (decide ((i : Int) < n)) = false by simp; omega]
      have hgood : f2 = false → prs (pList rdI most) false D k = some (l, D.drop k2) := fun e => by
        have hst := hst e
        have hni : n.toNat - i = 0 := by omega
        rw [hni] at hst
        rw [prs_f]
        unfold pList
        rw [hq1]
        simp only [Option.bind_some]
        rw [hst]
        simp [pN]
      refine seqQ rfl rfl (yMove (v := .bool false) rfl rfl) ?_
      refine seqU rfl rfl ?_
      refine seqU rfl rfl ?_
      refine seqU rfl rfl ?_
      refine seqU rfl rfl ?_
      refine seqU rfl rfl ?_
      refine seqQ rfl rfl (yPickF (v := .bool _) rfl rfl rfl) ?_
      refine seqNil ?_
      refine hF8 _ _ ?_; clear hF8
      -- if t25
      refine wpF rfl ?_
      refine wpExit ?_
      refine hF5 _ _ ?_; clear hF5
      refine wpSeq fun F14 hF14 => ?_
      refine wpSeq fun F15 hF15 => ?_
      refine wpRegion ?_
      refine seqQ rfl rfl (yMove (v := .pointer _) rfl rfl) ?_
      refine seqQ rfl rfl (yNilCheck rfl rfl) ?_
      refine seqQ rfl rfl (yFieldAddr rfl Try.underlying126 rfl Try.sizeOf4 rfl rfl) ?_
      refine seqQ rfl rfl (yLoad rfl Try.underlying4 rfl rfl (h2.blk.cell rfl)) ?_
      refine seqNil ?_
      refine hF15 _ _ ?_; clear hF15
      -- if t36
      cases f2
      · skip
        refine wpF rfl ?_
        refine wpSkip ?_
        refine hF14 _ _ ?_; clear hF14
        refine wpSeq fun F16 hF16 => ?_
        refine wpRegion ?_
        refine seqQ rfl rfl (yMove (v := .slice _ _ _) rfl rfl) ?_
        refine seqQ rfl rfl (yAssign (v := .slice _ _ _) rfl rfl) ?_
        refine seqNil ?_
        refine hF16 _ _ ?_; clear hF16
        -- ret
        refine wpRet (fin1 (v := .slice _ _ _) rfl rfl ?_)
        exact ⟨hK2, l, A, c, false, k2, rfl, h2, ho, .inr ⟨rfl, hgood rfl, hQ rfl⟩⟩
      · skip
        refine wpT rfl ?_
        refine wpSeq fun F17 hF17 => ?_
        refine wpRegion ?_
        refine seqQ rfl rfl (yMove (v := .pointer _) rfl rfl) ?_
        refine seqQ rfl rfl (yMove (v := .int _ _) rfl rfl) ?_
        -- e slot 39: call F96<(*farandole/farandoleref01.Reader).fail> t37 t38
        refine seqE rfl rfl (stepCall rfl Try.call96 rfl ?_)
        refine (rFail01_c g B cB D k2 k true H2 h2 hle).mono ?_
        rintro v Hx ⟨rfl, hx, hKx⟩
        refine seqNil ?_
        refine hF17 _ _ ?_; clear hF17
        refine wpSeq fun F18 hF18 => ?_
        refine wpRegion ?_
        refine seqQ rfl rfl (yAssign (v := .slice _ _ _) rfl rfl) ?_
        refine seqNil ?_
        refine hF18 _ _ ?_; clear hF18
        -- ret
        refine wpRet (fin1 (v := .slice _ _ _) rfl rfl ?_)
        exact ⟨hK2.trans hKx, [], none, 0, true, k, rfl, hx, Own.nil _ _, .inl ⟨rfl, hbad rfl⟩⟩
  · obtain ⟨hi0, hf2⟩ := hf1 rfl
    rcases hd1 with ⟨-, hp1, hn0⟩ | ⟨h', _⟩
    · skip
      have hbad : f2 = true → prs (pList rdI most) f D k = none := fun _ => by
        cases f
        · rw [prs_f] at hp1 ⊢
          unfold pList
          rw [hp1]
          rfl
        · rfl
      have hgood : f2 = false → prs (pList rdI most) f D k = some (l, D.drop k2) := fun e => by rw [hf2] at e; cases e
      rw [show (decide ((i : Int) < n)) = false by simp; omega]
      refine seqQ rfl rfl (yMove (v := .bool false) rfl rfl) ?_
      refine seqU rfl rfl ?_
      refine seqU rfl rfl ?_
      refine seqU rfl rfl ?_
      refine seqU rfl rfl ?_
      refine seqU rfl rfl ?_
      refine seqQ rfl rfl (yPickF (v := .bool _) rfl rfl rfl) ?_
      refine seqNil ?_
      refine hF8 _ _ ?_; clear hF8
      -- if t25
      refine wpF rfl ?_
      refine wpExit ?_
      refine hF5 _ _ ?_; clear hF5
      refine wpSeq fun F19 hF19 => ?_
      refine wpSeq fun F20 hF20 => ?_
      refine wpRegion ?_
      refine seqQ rfl rfl (yMove (v := .pointer _) rfl rfl) ?_
      refine seqQ rfl rfl (yNilCheck rfl rfl) ?_
      refine seqQ rfl rfl (yFieldAddr rfl Try.underlying126 rfl Try.sizeOf4 rfl rfl) ?_
      refine seqQ rfl rfl (yLoad rfl Try.underlying4 rfl rfl (h2.blk.cell rfl)) ?_
      refine seqNil ?_
      refine hF20 _ _ ?_; clear hF20
      -- if t36
      cases f2
      · skip
        refine wpF rfl ?_
        refine wpSkip ?_
        refine hF19 _ _ ?_; clear hF19
        refine wpSeq fun F21 hF21 => ?_
        refine wpRegion ?_
        refine seqQ rfl rfl (yMove (v := .slice _ _ _) rfl rfl) ?_
        refine seqQ rfl rfl (yAssign (v := .slice _ _ _) rfl rfl) ?_
        refine seqNil ?_
        refine hF21 _ _ ?_; clear hF21
        -- ret
        refine wpRet (fin1 (v := .slice _ _ _) rfl rfl ?_)
        exact ⟨hK2, l, A, c, false, k2, rfl, h2, ho, .inr ⟨rfl, hgood rfl, hQ rfl⟩⟩
      · skip
        refine wpT rfl ?_
        refine wpSeq fun F22 hF22 => ?_
        refine wpRegion ?_
        refine seqQ rfl rfl (yMove (v := .pointer _) rfl rfl) ?_
        refine seqQ rfl rfl (yMove (v := .int _ _) rfl rfl) ?_
        -- e slot 39: call F96<(*farandole/farandoleref01.Reader).fail> t37 t38
        refine seqE rfl rfl (stepCall rfl Try.call96 rfl ?_)
        refine (rFail01_c g B cB D k2 k true H2 h2 hle).mono ?_
        rintro v Hx ⟨rfl, hx, hKx⟩
        refine seqNil ?_
        refine hF22 _ _ ?_; clear hF22
        refine wpSeq fun F23 hF23 => ?_
        refine wpRegion ?_
        refine seqQ rfl rfl (yAssign (v := .slice _ _ _) rfl rfl) ?_
        refine seqNil ?_
        refine hF23 _ _ ?_; clear hF23
        -- ret
        refine wpRet (fin1 (v := .slice _ _ _) rfl rfl ?_)
        exact ⟨hK2.trans hKx, [], none, 0, true, k, rfl, hx, Own.nil _ _, .inl ⟨rfl, hbad rfl⟩⟩
    · cases h'
set_option maxRecDepth 100000 in
theorem rVals01_c (g : Nat) (B : Option Addr) (cB : Nat) (D : List UInt8) (k : Nat) (f : Bool) (most : Int) (H : Heap) (h : RRd H g B cB D k f) (hm : most ≤ 1000000) :
    CallsH Try.prog 98 [.pointer (some ⟨g, 0, none⟩), .int .i64 most] H fun v H' => RL pVal most eWV 88 OkW g B cB D k f H v H' := by
  have hle := h.le
  refine callsH_of Try.func98 rfl Try.ntmps98 (Nat.le_of_ble_eq_true rfl) ?_
  refine wpSeq fun F1 hF1 => ?_
  refine wpRegion ?_
  refine seqQ rfl rfl (yAssign (v := .slice _ _ _) rfl rfl) ?_
  refine seqNil ?_
  refine hF1 _ _ ?_; clear hF1
  refine wpSeq fun F2 hF2 => ?_
  refine wpRegion ?_
  refine seqQ rfl rfl (yMove (v := .pointer _) rfl rfl) ?_
  refine seqQ rfl rfl (yNilCheck rfl rfl) ?_
  refine seqQ rfl rfl (yFieldAddr rfl Try.underlying126 rfl Try.sizeOf3 rfl rfl) ?_
  refine seqQ rfl rfl (yLoad rfl Try.underlying3 rfl rfl (h.blk.cell rfl)) ?_
  refine seqQ rfl rfl (yAssign (v := .int _ _) rfl rfl) ?_
  refine seqNil ?_
  refine hF2 _ _ ?_; clear hF2
  refine wpSeq fun F3 hF3 => ?_
  refine wpRegion ?_
  refine seqQ rfl rfl (yMove (v := .pointer _) rfl rfl) ?_
  refine seqQ rfl rfl (yMove (v := .int _ _) rfl rfl) ?_
  -- e slot 15: call F65<(*farandole/farandoleref01.Reader).Bounded> t13 [i:i64:0] t14
  refine seqE rfl rfl (stepCall rfl Try.call65 rfl ?_)
  refine (rBnd01_c g B cB D k f 0 most H h).mono ?_
  rintro v H1 hr
  obtain ⟨n, f1, k1, rfl, h1, hK1, hd1⟩ : ∃ n f1 k1, v = .int .i64 n ∧ RRd H1 g B cB D k1 f1 ∧ Keep [g] H H1 ∧ ((f1 = true ∧ prs (pBnd 0 most) f D k = none ∧ n = 0) ∨ (f1 = false ∧ prs (pBnd 0 most) f D k = some (n, D.drop k1) ∧ 0 ≤ n ∧ n ≤ most)) := by
    obtain ⟨hK1, ⟨n, r, k', hp, rfl, h1, rfl, hn0, hnm⟩ | ⟨hp, ⟨k', h1⟩, rfl⟩⟩ := hr
    · exact ⟨n, false, k', rfl, h1, hK1, .inr ⟨rfl, hp, hn0, hnm⟩⟩
    · exact ⟨0, true, k', rfl, h1, hK1, .inl ⟨rfl, hp, rfl⟩⟩
  have s1 := hK1.size
  have lg := h.blk.lt
  refine seqQ rfl rfl (yAssign (v := .int _ _) rfl rfl) ?_
  refine seqNil ?_
  refine hF3 _ _ ?_; clear hF3
  refine wpSeq fun F4 hF4 => ?_
  refine wpRegion ?_
  refine seqQ rfl rfl (yAssign (v := .slice _ _ _) rfl rfl) ?_
  refine seqNil ?_
  refine hF4 _ _ ?_; clear hF4
  refine wpSeq fun F5 hF5 => ?_
  refine wpSeq fun F6 hF6 => ?_
  refine wpRegion ?_
  refine seqQ rfl rfl (yAssign (v := .int _ _) rfl rfl) ?_
  refine seqNil ?_
  refine hF6 _ _ ?_; clear hF6
  -- loop
  refine wpBlock ?_
  refine wpLoopS [7, 8, 16, 17, 18, 19, 20, 21, 22, 23, 24, 25, 26, 27, 28, 29, 30, 31, 32] (fun x : Nat × Value × List Val × Bool × Nat => [(8, .int .i64 x.1), (7, x.2.1)]) (fun x H' => Keep [g] H H' ∧ RRd H' g B cB D x.2.2.2.2 x.2.2.2.1 ∧ Own eWV 88 H' H.size x.2.1 x.2.2.1 ∧ (x.2.2.2.1 = false → ∀ y ∈ x.2.2.1, OkW y) ∧ (f1 = true → x.1 = 0 ∧ x.2.2.2.1 = true) ∧ (f1 = false → (x.1 : Int) ≤ n ∧ x.2.2.1.length = x.1 ∧ (x.2.2.2.1 = false → pN pVal n.toNat (D.drop k1) = (pN pVal (n.toNat - x.1) (D.drop x.2.2.2.2)).map fun y => (x.2.2.1 ++ y.1, y.2)) ∧ (x.2.2.2.1 = true → pN pVal n.toNat (D.drop k1) = none))) (fun x => n.toNat - x.1) (0, .slice none 0 0, [], f1, k1) ⟨rfl, rfl, trivial⟩ ⟨hK1, h1, Own.nil _ _, (fun _ y hy => by simp at hy), fun h => ⟨rfl, h⟩, fun h => ?_⟩ ?_
  · rcases hd1 with ⟨h', _⟩ | ⟨-, _, h0, _⟩
    · rw [h] at h'; cases h'
    · dsimp only
      refine ⟨by omega, rfl, fun _ => by simp, fun h' => by rw [h] at h'; cases h'⟩
  rintro ⟨i, v, l, f2, k2⟩ J H2 ⟨hK2, h2, ho, hQ, hf1, hff⟩
  dsimp only at hK2 h2 ho hQ hf1 hff
  have s2 := hK2.size
  obtain ⟨A, c, rfl, -⟩ := ho.form
  refine wpSeq fun F7 hF7 => ?_
  refine wpSeq fun F8 hF8 => ?_
  refine wpRegion ?_
  refine seqQ rfl rfl (yMove (v := .int _ _) rfl rfl) ?_
  refine seqQ rfl rfl (yMove (v := .int _ _) rfl rfl) ?_
  refine seqQ rfl rfl (yLss rfl rfl rfl) ?_
  -- guard t19
  cases f1
  · obtain ⟨hin, hll, hst, hsf⟩ := hff rfl
    rcases hd1 with ⟨h', _⟩ | ⟨-, hp1, hn0, hnm⟩
    · cases h'
    obtain ⟨hf0, hq1⟩ := prs_ff hp1
    subst hf0
    have hbad : f2 = true → prs (pList pVal most) false D k = none := fun e => by
      rw [prs_f]
      unfold pList
      rw [hq1]
      exact hsf e
    by_cases hlt : i < n.toNat
    · skip
      rw [show (decide ((i : Int) < n)) = true by simp; omega]
      cases f2
      · skip
        refine seqQ rfl rfl (yMove (v := .bool true) rfl rfl) ?_
        refine seqQ rfl rfl (yMove (v := .pointer _) rfl rfl) ?_
        refine seqQ rfl rfl (yNilCheck rfl rfl) ?_
        refine seqQ rfl rfl (yFieldAddr rfl Try.underlying126 rfl Try.sizeOf4 rfl rfl) ?_
        refine seqQ rfl rfl (yLoad rfl Try.underlying4 rfl rfl (h2.blk.cell rfl)) ?_
        refine seqQ rfl rfl (yNot rfl rfl) ?_
        refine seqQ rfl rfl (yPickT (v := .bool _) rfl rfl rfl) ?_
        refine seqNil ?_
        refine hF8 _ _ ?_; clear hF8
        -- if t25
        refine wpT rfl ?_
        refine wpSkip ?_
        refine hF7 _ _ ?_; clear hF7
        refine wpSeq fun F9 hF9 => ?_
        refine wpBlock ?_
        refine wpRegion ?_
        refine seqQ rfl rfl (yMove (v := .slice _ _ _) rfl rfl) ?_
        refine seqQ rfl rfl (yMove (v := .pointer _) rfl rfl) ?_
        -- e slot 30: call F106<(*farandole/farandoleref01.Reader).Value> t29
        refine seqE rfl rfl (stepCall rfl Try.call106 rfl ?_)
        refine (rVal01_c g B cB D k2 false H2 h2).mono ?_
        rintro w H3 hr3
        obtain ⟨hK3, a, f3, k3, rfl, h3, hqa, hd3⟩ := hr3
        have ho3 := ho.keep hK3 (fun b hb => by have := (ho.lt b hb).1; simp; omega)
        have hst := hst rfl
        have hni : n.toNat - i = (n.toNat - (i + 1)) + 1 := by omega
        rw [hni] at hst
        have s3 := hK3.size
        refine seqN rfl rfl (nBuildSliceN (vs := [.agg _]) rfl Try.underlying24 Try.sizeOf88 Try.zeroValue88 rfl rfl rfl rfl rfl) (fun g31 H31 hx31 hB31 hg31 hl31 => ?_)
        -- e slot 32: builtin append t28 t31 : [24, 24]
        refine seqE rfl rfl (stepApp (c := eWV) (ho3.ext hx31) rfl Try.underlying24 elem_eWV rfl (by omega) rfl rfl rfl (Blk.rd (c := eWV) (l := [a]) hB31) (by simp; omega) (by have := hx31.size; omega) ?_)
        intro v' H4 ho4 hg4
        have h4 : RRd H4 g B cB D k3 f3 := by
          have h3' := h3.ext hx31
          cases hov : (Value.slice A l.length c).ownBlock with
          | none =>
            have hk := hg4.1
            rw [hov] at hk
            exact h3'.ext hk.ext
          | some gb =>
            have hk := hg4.1
            rw [hov] at hk
            exact h3'.new h (by simpa using hk) (ho.lt gb hov).1
        have hK4 : Keep [g] H H4 := keepGrew (hK2.trans hK3) hx31 hg4 (fun gb hb => (ho.lt gb hb).1)
        obtain ⟨A', c', rfl, -⟩ := ho4.form
        refine seqQ rfl rfl (yAssign (v := .slice _ _ _) rfl rfl) ?_
        refine seqNil ?_
        refine hF9 _ _ ?_; clear hF9
        refine wpRegion ?_
        refine seqQ rfl rfl (yMove (v := .int _ _) rfl rfl) ?_
        refine seqQ rfl rfl (yAdd rfl rfl rfl (by unfold In64; omega)) ?_
        refine seqQ rfl rfl (yAssign (v := .int _ _) rfl rfl) ?_
        refine seqNil ?_
        -- end loop
        refine loopEnd (i + 1, _, l ++ [a], f3, k3) (by repeat (first | (with_reducible exact Agree.refl _ _) | refine Agree.upd ?_ rfl | refine Agree.over ?_ rfl)) (by dsimp only; omega) ⟨rfl, rfl, trivial⟩ ⟨?_, h4, ho4, ?_, (fun h => by cases h), fun _ => ⟨by dsimp only; omega, by simp [hll], fun hf3 => ?_, fun hf3 => ?_⟩⟩
        · exact hK4
        · dsimp only
          intro hf3 y hy
          rcases List.mem_append.1 hy with hy | hy
          · exact hQ rfl y hy
          · simp at hy
            subst hy
            exact hqa hf3
        · dsimp only at hf3 ⊢
          rcases hd3 with ⟨h', _⟩ | ⟨-, hp3⟩
          · rw [hf3] at h'; cases h'
          · rw [hst]
            exact pN_step hp3 l
        · dsimp only at hf3 ⊢
          rcases hd3 with ⟨-, hp3⟩ | ⟨h', _⟩
          · rw [hst]
            exact pN_stop hp3 l
          · rw [hf3] at h'; cases h'
      · skip
        refine seqQ rfl rfl (yMove (v := .bool true) rfl rfl) ?_
        refine seqQ rfl rfl (yMove (v := .pointer _) rfl rfl) ?_
        refine seqQ rfl rfl (yNilCheck rfl rfl) ?_
        refine seqQ rfl rfl (yFieldAddr rfl Try.underlying126 rfl Try.sizeOf4 rfl rfl) ?_
        refine seqQ rfl rfl (yLoad rfl Try.underlying4 rfl rfl (h2.blk.cell rfl)) ?_
        refine seqQ rfl rfl (yNot rfl rfl) ?_
        refine seqQ rfl rfl (yPickT (v := .bool _) rfl rfl rfl) ?_
        refine seqNil ?_
        refine hF8 _ _ ?_; clear hF8
        -- if t25
        refine wpF rfl ?_
        refine wpExit ?_
        refine hF5 _ _ ?_; clear hF5
        refine wpSeq fun F10 hF10 => ?_
        refine wpSeq fun F11 hF11 => ?_
        refine wpRegion ?_
        refine seqQ rfl rfl (yMove (v := .pointer _) rfl rfl) ?_
        refine seqQ rfl rfl (yNilCheck rfl rfl) ?_
        refine seqQ rfl rfl (yFieldAddr rfl Try.underlying126 rfl Try.sizeOf4 rfl rfl) ?_
        refine seqQ rfl rfl (yLoad rfl Try.underlying4 rfl rfl (h2.blk.cell rfl)) ?_
        refine seqNil ?_
        refine hF11 _ _ ?_; clear hF11
        -- if t36
        refine wpT rfl ?_
        refine wpSeq fun F12 hF12 => ?_
        refine wpRegion ?_
        refine seqQ rfl rfl (yMove (v := .pointer _) rfl rfl) ?_
        refine seqQ rfl rfl (yMove (v := .int _ _) rfl rfl) ?_
        -- e slot 39: call F96<(*farandole/farandoleref01.Reader).fail> t37 t38
        refine seqE rfl rfl (stepCall rfl Try.call96 rfl ?_)
        refine (rFail01_c g B cB D k2 k true H2 h2 hle).mono ?_
        rintro v Hx ⟨rfl, hx, hKx⟩
        refine seqNil ?_
        refine hF12 _ _ ?_; clear hF12
        refine wpSeq fun F13 hF13 => ?_
        refine wpRegion ?_
        refine seqQ rfl rfl (yAssign (v := .slice _ _ _) rfl rfl) ?_
        refine seqNil ?_
        refine hF13 _ _ ?_; clear hF13
        -- ret
        refine wpRet (fin1 (v := .slice _ _ _) rfl rfl ?_)
        exact ⟨hK2.trans hKx, [], none, 0, true, k, rfl, hx, Own.nil _ _, .inl ⟨rfl, hbad rfl⟩⟩
    · skip
      rw [show (decide ((i : Int) < n)) = false by simp; omega]
      have hgood : f2 = false → prs (pList pVal most) false D k = some (l, D.drop k2) := fun e => by
        have hst := hst e
        have hni : n.toNat - i = 0 := by omega
        rw [hni] at hst
        rw [prs_f]
        unfold pList
        rw [hq1]
        simp only [Option.bind_some]
        rw [hst]
        simp [pN]
      refine seqQ rfl rfl (yMove (v := .bool false) rfl rfl) ?_
      refine seqU rfl rfl ?_
      refine seqU rfl rfl ?_
      refine seqU rfl rfl ?_
      refine seqU rfl rfl ?_
      refine seqU rfl rfl ?_
      refine seqQ rfl rfl (yPickF (v := .bool _) rfl rfl rfl) ?_
      refine seqNil ?_
      refine hF8 _ _ ?_; clear hF8
      -- if t25
      refine wpF rfl ?_
      refine wpExit ?_
      refine hF5 _ _ ?_; clear hF5
      refine wpSeq fun F14 hF14 => ?_
      refine wpSeq fun F15 hF15 => ?_
      refine wpRegion ?_
      refine seqQ rfl rfl (yMove (v := .pointer _) rfl rfl) ?_
      refine seqQ rfl rfl (yNilCheck rfl rfl) ?_
      refine seqQ rfl rfl (yFieldAddr rfl Try.underlying126 rfl Try.sizeOf4 rfl rfl) ?_
      refine seqQ rfl rfl (yLoad rfl Try.underlying4 rfl rfl (h2.blk.cell rfl)) ?_
      refine seqNil ?_
      refine hF15 _ _ ?_; clear hF15
      -- if t36
      cases f2
      · skip
        refine wpF rfl ?_
        refine wpSkip ?_
        refine hF14 _ _ ?_; clear hF14
        refine wpSeq fun F16 hF16 => ?_
        refine wpRegion ?_
        refine seqQ rfl rfl (yMove (v := .slice _ _ _) rfl rfl) ?_
        refine seqQ rfl rfl (yAssign (v := .slice _ _ _) rfl rfl) ?_
        refine seqNil ?_
        refine hF16 _ _ ?_; clear hF16
        -- ret
        refine wpRet (fin1 (v := .slice _ _ _) rfl rfl ?_)
        exact ⟨hK2, l, A, c, false, k2, rfl, h2, ho, .inr ⟨rfl, hgood rfl, hQ rfl⟩⟩
      · skip
        refine wpT rfl ?_
        refine wpSeq fun F17 hF17 => ?_
        refine wpRegion ?_
        refine seqQ rfl rfl (yMove (v := .pointer _) rfl rfl) ?_
        refine seqQ rfl rfl (yMove (v := .int _ _) rfl rfl) ?_
        -- e slot 39: call F96<(*farandole/farandoleref01.Reader).fail> t37 t38
        refine seqE rfl rfl (stepCall rfl Try.call96 rfl ?_)
        refine (rFail01_c g B cB D k2 k true H2 h2 hle).mono ?_
        rintro v Hx ⟨rfl, hx, hKx⟩
        refine seqNil ?_
        refine hF17 _ _ ?_; clear hF17
        refine wpSeq fun F18 hF18 => ?_
        refine wpRegion ?_
        refine seqQ rfl rfl (yAssign (v := .slice _ _ _) rfl rfl) ?_
        refine seqNil ?_
        refine hF18 _ _ ?_; clear hF18
        -- ret
        refine wpRet (fin1 (v := .slice _ _ _) rfl rfl ?_)
        exact ⟨hK2.trans hKx, [], none, 0, true, k, rfl, hx, Own.nil _ _, .inl ⟨rfl, hbad rfl⟩⟩
  · obtain ⟨hi0, hf2⟩ := hf1 rfl
    rcases hd1 with ⟨-, hp1, hn0⟩ | ⟨h', _⟩
    · skip
      have hbad : f2 = true → prs (pList pVal most) f D k = none := fun _ => by
        cases f
        · rw [prs_f] at hp1 ⊢
          unfold pList
          rw [hp1]
          rfl
        · rfl
      have hgood : f2 = false → prs (pList pVal most) f D k = some (l, D.drop k2) := fun e => by rw [hf2] at e; cases e
      rw [show (decide ((i : Int) < n)) = false by simp; omega]
      refine seqQ rfl rfl (yMove (v := .bool false) rfl rfl) ?_
      refine seqU rfl rfl ?_
      refine seqU rfl rfl ?_
      refine seqU rfl rfl ?_
      refine seqU rfl rfl ?_
      refine seqU rfl rfl ?_
      refine seqQ rfl rfl (yPickF (v := .bool _) rfl rfl rfl) ?_
      refine seqNil ?_
      refine hF8 _ _ ?_; clear hF8
      -- if t25
      refine wpF rfl ?_
      refine wpExit ?_
      refine hF5 _ _ ?_; clear hF5
      refine wpSeq fun F19 hF19 => ?_
      refine wpSeq fun F20 hF20 => ?_
      refine wpRegion ?_
      refine seqQ rfl rfl (yMove (v := .pointer _) rfl rfl) ?_
      refine seqQ rfl rfl (yNilCheck rfl rfl) ?_
      refine seqQ rfl rfl (yFieldAddr rfl Try.underlying126 rfl Try.sizeOf4 rfl rfl) ?_
      refine seqQ rfl rfl (yLoad rfl Try.underlying4 rfl rfl (h2.blk.cell rfl)) ?_
      refine seqNil ?_
      refine hF20 _ _ ?_; clear hF20
      -- if t36
      cases f2
      · skip
        refine wpF rfl ?_
        refine wpSkip ?_
        refine hF19 _ _ ?_; clear hF19
        refine wpSeq fun F21 hF21 => ?_
        refine wpRegion ?_
        refine seqQ rfl rfl (yMove (v := .slice _ _ _) rfl rfl) ?_
        refine seqQ rfl rfl (yAssign (v := .slice _ _ _) rfl rfl) ?_
        refine seqNil ?_
        refine hF21 _ _ ?_; clear hF21
        -- ret
        refine wpRet (fin1 (v := .slice _ _ _) rfl rfl ?_)
        exact ⟨hK2, l, A, c, false, k2, rfl, h2, ho, .inr ⟨rfl, hgood rfl, hQ rfl⟩⟩
      · skip
        refine wpT rfl ?_
        refine wpSeq fun F22 hF22 => ?_
        refine wpRegion ?_
        refine seqQ rfl rfl (yMove (v := .pointer _) rfl rfl) ?_
        refine seqQ rfl rfl (yMove (v := .int _ _) rfl rfl) ?_
        -- e slot 39: call F96<(*farandole/farandoleref01.Reader).fail> t37 t38
        refine seqE rfl rfl (stepCall rfl Try.call96 rfl ?_)
        refine (rFail01_c g B cB D k2 k true H2 h2 hle).mono ?_
        rintro v Hx ⟨rfl, hx, hKx⟩
        refine seqNil ?_
        refine hF22 _ _ ?_; clear hF22
        refine wpSeq fun F23 hF23 => ?_
        refine wpRegion ?_
        refine seqQ rfl rfl (yAssign (v := .slice _ _ _) rfl rfl) ?_
        refine seqNil ?_
        refine hF23 _ _ ?_; clear hF23
        -- ret
        refine wpRet (fin1 (v := .slice _ _ _) rfl rfl ?_)
        exact ⟨hK2.trans hKx, [], none, 0, true, k, rfl, hx, Own.nil _ _, .inl ⟨rfl, hbad rfl⟩⟩
    · cases h'
set_option maxRecDepth 100000 in
theorem rEnd01_c (g : Nat) (B : Option Addr) (cB : Nat) (D : List UInt8) (k : Nat) (f : Bool) (H : Heap) (h : RRd H g B cB D k f) :
    CallsH Try.prog 68 [.pointer (some ⟨g, 0, none⟩)] H fun v H' => v = .int .i64 (if f = true ∨ k ≠ D.length then 4 else 0) ∧ H' = H := by
  refine callsH_of Try.func68 rfl Try.ntmps68 (Nat.le_of_ble_eq_true rfl) ?_
  refine wpSeq fun F1 hF1 => ?_
  refine wpRegion ?_
  refine seqQ rfl rfl (yAssign (v := .int _ _) rfl rfl) ?_
  refine seqNil ?_
  refine hF1 _ _ ?_; clear hF1
  refine wpSeq fun F2 hF2 => ?_
  refine wpSeq fun F3 hF3 => ?_
  refine wpRegionD Try_mixed [.q, .q, .q, .q, .q, .q, .q, .q, .q, .q, .q, .q, .q, .q, .q, .q] 14 [0, 1, 3, 7, 15, 31, 63, 127, 255, 31, 543, 1567, 3615, 7711, 16383, 32767] [] (by kernel_rfl) _ rfl [0, 1, 2, 3, 4, 5, 6, 7, 8, 9, 10, 11, 12, 13] rfl (by simp) ?_
  refine lexQ rfl rfl rfl rfl (fun H hM => (yMove (v := .pointer _) rfl rfl)) ?_
  refine lexQ rfl rfl rfl rfl (fun H hM => (yNilCheck rfl rfl)) ?_
  refine lexQ rfl rfl rfl rfl (fun H hM => (yFieldAddr rfl Try.underlying126 rfl Try.sizeOf4 rfl rfl)) ?_
  refine lexQ rfl rfl rfl rfl (fun H hM => (yLoad rfl Try.underlying4 rfl rfl (hM.ext.cell (h.blk.cell rfl)))) ?_
  -- guard t7
  cases f
  · skip
    refine lexQ rfl rfl rfl rfl (fun H hM => (yMove (v := .bool false) rfl rfl)) ?_
    refine lexQ rfl rfl rfl rfl (fun H hM => (yMove (v := .pointer _) rfl rfl)) ?_
    refine lexQ rfl rfl rfl rfl (fun H hM => (yNilCheck rfl rfl)) ?_
    refine lexQ rfl rfl rfl rfl (fun H hM => (yFieldAddr rfl Try.underlying126 rfl Try.sizeOf3 rfl rfl)) ?_
    refine lexQ rfl rfl rfl rfl (fun H hM => (yLoad rfl Try.underlying3 rfl rfl (hM.ext.cell (h.blk.cell rfl)))) ?_
    refine lexQ rfl rfl rfl rfl (fun H hM => (yMove (v := .pointer _) rfl rfl)) ?_
    refine lexQ rfl rfl rfl rfl (fun H hM => (yNilCheck rfl rfl)) ?_
    refine lexQ rfl rfl rfl rfl (fun H hM => (yFieldAddr rfl Try.underlying126 rfl Try.sizeOf79 rfl rfl)) ?_
    refine lexQ rfl rfl rfl rfl (fun H hM => (yLoad rfl Try.underlying79 rfl rfl (hM.ext.cell (h.blk.cell rfl)))) ?_
    refine lexQ rfl rfl rfl rfl (fun H hM => (yLen rfl Try.underlying79 rfl)) ?_
    -- tail
    refine lexNil0 rfl (fun hM => ?_)
    refine seqQ rfl rfl (yNeq rfl rfl rfl) ?_
    refine seqQ rfl rfl (yPickF (v := .bool _) rfl rfl rfl) ?_
    refine seqNil ?_
    refine hF3 _ _ ?_; clear hF3
    -- if t18
    refine wpCond rfl (fun hne => ?_) (fun hne => ?_)
    · skip
      have hne : k ≠ D.length := by simp at hne; omega
      refine wpSeq fun F4 hF4 => ?_
      refine wpRegion ?_
      refine seqQ rfl rfl (yAssign (v := .int _ _) rfl rfl) ?_
      refine seqNil ?_
      refine hF4 _ _ ?_; clear hF4
      -- ret
      refine wpRet (fin1 (v := .int _ _) rfl rfl ?_)
      exact ⟨by rw [if_pos (.inr hne)], rfl⟩
    · skip
      have hne : k = D.length := by simp at hne; omega
      refine wpSkip ?_
      refine hF2 _ _ ?_; clear hF2
      refine wpSeq fun F5 hF5 => ?_
      refine wpRegion ?_
      refine seqQ rfl rfl (yAssign (v := .int _ _) rfl rfl) ?_
      refine seqNil ?_
      refine hF5 _ _ ?_; clear hF5
      -- ret
      refine wpRet (fin1 (v := .int _ _) rfl rfl ?_)
      exact ⟨by rw [if_neg (by simp [hne])], rfl⟩
  · skip
    refine lexQ rfl rfl rfl rfl (fun H hM => (yMove (v := .bool true) rfl rfl)) ?_
    refine lexU rfl rfl rfl ?_
    refine lexU rfl rfl rfl ?_
    refine lexU rfl rfl rfl ?_
    refine lexU rfl rfl rfl ?_
    refine lexU rfl rfl rfl ?_
    refine lexU rfl rfl rfl ?_
    refine lexU rfl rfl rfl ?_
    refine lexU rfl rfl rfl ?_
    refine lexU rfl rfl rfl ?_
    -- tail
    refine lexNil0 rfl (fun hM => ?_)
    refine seqU rfl rfl ?_
    refine seqQ rfl rfl (yPickT (v := .bool _) rfl rfl rfl) ?_
    refine seqNil ?_
    refine hF3 _ _ ?_; clear hF3
    -- if t18
    refine wpT rfl ?_
    refine wpSeq fun F6 hF6 => ?_
    refine wpRegion ?_
    refine seqQ rfl rfl (yAssign (v := .int _ _) rfl rfl) ?_
    refine seqNil ?_
    refine hF6 _ _ ?_; clear hF6
    -- ret
    refine wpRet (fin1 (v := .int _ _) rfl rfl ?_)
    exact ⟨by rw [if_pos (.inl rfl)], rfl⟩
end Go.Proofs.Ytbanngdijmglbaa
