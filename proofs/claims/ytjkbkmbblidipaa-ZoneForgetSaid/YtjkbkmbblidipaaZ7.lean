/- Zones: Model, Range (both). -/
import Derived.Test.YtjkbkmbblidipaaZ6
namespace Go.Proofs.Ytjkbkmbblidipaa
open Go.RowKit

set_option maxRecDepth 100000 in
theorem closeZ_cases (z : Zn) : (closeZ z = (zn0, false) ∧ (ValZ z → ∀ D, Clo (dm z) D → Dg (dm z) D → ¬ Leq (dm z) D (M0 z))) ∨ ∃ L, closeZ z = (⟨z.N, L⟩, true) ∧ ValZ z ∧ Best (dm z) (M0 z) L := by
  have h := closeZ_r z
  generalize closeZ z = r at h
  cases h with
  | bad h => exact .inl ⟨rfl, fun h' => absurd h' h⟩
  | none _ h => exact .inl ⟨rfl, fun _ => h⟩
  | some L hv hB => exact .inr ⟨L, rfl, hv, hB⟩
set_option maxRecDepth 100000 in
theorem Best.self {z : Zn} {L : List Int} (hv : ValZ z) (hB : Best (dm z) (M0 z) L) : Best (dm z) (M0 ⟨z.N, L⟩) L := by
  have e := hB.again hv
  rcases closeZ_cases ⟨z.N, L⟩ with ⟨e', _⟩ | ⟨L', e', _, hB'⟩
  · rw [e] at e'
    exact absurd (congrArg Prod.snd e') (by simp)
  · rw [e] at e'
    injection e' with e1 e2
    injection e1 with e3 e4
    subst e4
    exact hB'
set_option maxRecDepth 100000 in
/-- One variable more is given its least value. -/
theorem mod_step {z : Zn} {L : List Int} (hv : ValZ z) (hB : Best (dm z) (M0 z) L) {x : Nat} (hx : x + 1 < dm z) :
    ∃ L1 L2, addZ ⟨z.N, L⟩ (x : Int) (-1) (-mt (dm z) L 0 (x + 1)) = (⟨z.N, L1⟩, 0) ∧ ValZ ⟨z.N, L1⟩ ∧ closeZ ⟨z.N, L1⟩ = (⟨z.N, L2⟩, true) ∧ ValZ ⟨z.N, L2⟩ ∧ Best (dm z) (M0 ⟨z.N, L2⟩) L2 ∧ ∀ a, a < dm z → mt (dm z) L2 0 a = mt (dm z) L 0 a := by
  have hd := hv.dim
  have hv' := hB.val hv
  have hB' := hB.self hv
  have h0 : 0 < dm z := by omega
  have hX : knownB ⟨z.N, L⟩ (x : Int) := ⟨by omega, by show (x : Int) < z.N; omega⟩
  have hY : knownB ⟨z.N, L⟩ (-1) := ⟨by omega, by show (-1 : Int) < z.N; omega⟩
  have e := addZ_ok (C := -mt (dm z) L 0 (x + 1)) hv' hX hY
  rw [addZ_idx hv' (i := x + 1) (j := 0) (by omega) (by omega)] at e
  have hval := addZ_val (C := -mt (dm z) L 0 (x + 1)) hv' (show x + 1 < dm ⟨z.N, L⟩ from hx) (show 0 < dm ⟨z.N, L⟩ from h0)
  have key := addZ_holds (C := -mt (dm z) L 0 (x + 1)) hv' (show x + 1 < dm ⟨z.N, L⟩ from hx) (show 0 < dm ⟨z.N, L⟩ from h0)
  have n0 : ∀ vs, num vs 0 = 0 := fun _ => rfl
  have hm : HoldsP ⟨z.N, addL L ((x + 1) * dm z + 0) (-mt (dm z) L 0 (x + 1))⟩ (modL (dm z) L) := (key _).2 (.inl ⟨modL_holds hv' hB', by
    have := modL_num hv' hB' (a := x + 1) hx
    change num (modL (dm z) L) (x + 1) = _ at this
    rw [this, n0]
    change -mt (dm z) L 0 (x + 1) - 0 ≤ _
    omega⟩)
  obtain ⟨L2, e2, hB2⟩ := hm.ok
  have hv2 := Best.val (z := ⟨z.N, addL L ((x + 1) * dm z + 0) (-mt (dm z) L 0 (x + 1))⟩) hval hB2
  have hs2 := Best.self (z := ⟨z.N, addL L ((x + 1) * dm z + 0) (-mt (dm z) L 0 (x + 1))⟩) hval hB2
  refine ⟨_, L2, e, hval, e2, hv2, hs2, fun a ha => ?_⟩
  have h1 := modL_least hB2 hm ha
  have h2 := modL_num hv' hB' (a := a) ha
  have h3 : HoldsP ⟨z.N, L⟩ (modL (dm z) L2) := by
    rcases (key _).1 (modL_holds hval hB2) with h | h
    · exact h.1
    · exact h.1
  have h4 := modL_least hB' h3 (a := a) ha
  have h5 := modL_num hval hB2 (a := a) ha
  change num (modL (dm z) L) a = -mt (dm z) L 0 a at h2
  change -mt (dm z) L 0 a ≤ _ at h4
  change num (modL (dm z) L2) a = -mt (dm z) L2 0 a at h5
  change -mt (dm z) L2 0 a ≤ _ at h1
  omega
def modZ (z : Zn) : List Int × Bool := if (closeZ z).2 = true then (modL (dm z) (closeZ z).1.b, true) else ([], false)
set_option maxRecDepth 100000 in
theorem modL_get {n : Nat} {L : List Int} {y : Nat} (h : y < (modL n L).length) : (modL n L)[y] = -mt n L 0 (y + 1) := by simp [modL]
set_option maxRecDepth 100000 in
theorem Best.in64 {z : Zn} {L : List Int} (hv : ValZ z) (hB : Best (dm z) (M0 z) L) {a b : Nat} (ha : a < dm z) (hb : b < dm z) : -20000 ≤ mt (dm z) L a b ∧ mt (dm z) L a b ≤ 20000 := by
  have h1 := hB.full hv ha hb
  have h2 := hB.low hv ha hb
  have h3 := ful_le a b
  have h4 := ful_le b a
  omega
section
variable {P : Program} {n : Nat} {o : Oper} {E : Env} {H : Heap} {x y : Operand} {a b c : Int} {k : IntKind}
set_option maxRecDepth 100000 in
theorem yMaxE {ts : Array TypeId} (ho : o.op = .call { callee := .builtin .max, args := #[x, y], argTypes := ts }) (hx : ev n E x = .int k a) (hy : ev n E y = .int k b) (e : max a b = c) : Yld P n o E H (.int k c) := e ▸ yMax ho hx hy
end

set_option maxRecDepth 100000 in
theorem model_c (z : Zn) (A : Option Addr) (ca : Nat) (H : Heap) (hA : Rd eInt H A z.b) (h8 : z.N ≤ 8) :
    CallsH Try.prog 17 [.agg (znC z A ca).toArray] H fun v H' => Ext H H' ∧ ∃ u, v = .tuple #[u, .bool (modZ z).2] ∧ Own eInt 3 H' H.size u (modZ z).1 := by
  refine callsH_of Try.func17 rfl Try.ntmps17 (Nat.le_of_ble_eq_true rfl) ?_
  refine wpSeq fun F1 hF1 => ?_
  refine wpRegion ?_
  refine seqN rfl rfl (nBoxA rfl rfl) (fun g1 H1 hx1 hB1 hg1 hl1 => ?_)
  refine seqQ rfl rfl (yAssign (v := .slice _ _ _) rfl rfl) ?_
  refine seqQ rfl rfl (yAssign (v := .bool _) rfl rfl) ?_
  refine seqNil ?_
  refine hF1 _ _ ?_; clear hF1
  refine wpSeq fun F2 hF2 => ?_
  refine wpRegion ?_
  refine seqQ rfl rfl (yLoadB hB1 rfl Try.underlying27 rfl Try.sizeOf27 rfl) ?_
  -- e slot 13: call F14<farandole/zone.Close> t12
  refine seqE rfl rfl (stepCall rfl Try.call14 rfl ?_)
  have hc := close_c z A ca _ (hA.ext hx1) h8
  rcases closeZ_cases z with ⟨e, _⟩ | ⟨L, e, hv, hB⟩
  · skip
    rw [e] at hc
    refine hc.mono ?_
    rintro v H2 ⟨hx2, u, rfl, A', ca', rfl, ho⟩
    refine seqQ rfl rfl (yMove (v := .tuple _) rfl rfl) ?_
    refine seqQ rfl rfl (yExtract (v := .agg _) rfl rfl rfl) ?_
    refine seqQ rfl rfl (yExtract (v := .bool _) rfl rfl rfl) ?_
    refine seqN rfl rfl (nAlloc rfl Try.zeroValue27 rfl) (fun g4 H4 hx4 hB4 hg4 hl4 => ?_)
    -- e slot None: store T27 t4 t14
    refine seqE0 rfl rfl (stepStoreB rfl (by kernel_rfl) rfl rfl rfl hB4 rfl ?_)
    intro H5 hB5 hK5
    refine seqQ rfl rfl (yAssign (v := .bool _) rfl rfl) ?_
    refine seqNil ?_
    refine hF2 _ _ ?_; clear hF2
    refine wpSeq fun F3 hF3 => ?_
    refine wpSeq fun F4 hF4 => ?_
    refine wpRegion ?_
    refine seqQ rfl rfl (yMove (v := .bool _) rfl rfl) ?_
    refine seqQ rfl rfl (yNot rfl rfl) ?_
    refine seqNil ?_
    refine hF4 _ _ ?_; clear hF4
    -- if t17
    refine wpT rfl ?_
    refine wpSeq fun F5 hF5 => ?_
    refine wpRegion ?_
    refine seqQ rfl rfl (yAssign (v := .slice _ _ _) rfl rfl) ?_
    refine seqQ rfl rfl (yAssign (v := .bool _) rfl rfl) ?_
    refine seqNil ?_
    refine hF5 _ _ ?_; clear hF5
    -- ret
    refine wpRet (fin2 (v := .slice _ _ _) (v' := .bool _) rfl rfl rfl ?_)
    refine ⟨((hx1.trans hx2).trans hx4).mine hK5 (by have := hx1.size; have := hx2.size; simp; omega), _, by unfold modZ; rw [e]; rfl, by unfold modZ; rw [e]; exact Own.nil _ _⟩
  · skip
    rw [e] at hc
    refine hc.mono ?_
    rintro v H2 ⟨hx2, u, rfl, A', ca', rfl, ho⟩
    obtain ⟨d1, d2, d3, d4⟩ := hv.dim
    have hv' := hB.val hv
    have hB1' := hB1.lt
    refine seqQ rfl rfl (yMove (v := .tuple _) rfl rfl) ?_
    refine seqQ rfl rfl (yExtract (v := .agg _) rfl rfl rfl) ?_
    refine seqQ rfl rfl (yExtract (v := .bool _) rfl rfl rfl) ?_
    refine seqN rfl rfl (nAlloc rfl Try.zeroValue27 rfl) (fun g4 H4 hx4 hB4 hg4 hl4 => ?_)
    -- e slot None: store T27 t4 t14
    refine seqE0 rfl rfl (stepStoreB rfl (by kernel_rfl) rfl rfl rfl hB4 rfl ?_)
    intro H5 hB5 hK5
    have hE := ((hx1.trans hx2).trans hx4).mine hK5 (by have := hx1.size; have := hx2.size; simp; omega)
    have b1 := ((hB1.ext hx2).ext hx4).keep hK5 (by have := hx2.size; simp; omega)
    have rd5 : Rd eInt H5 A' L := ((Own.rd ho).2.ext hx4).keep hK5 (by
      intro p e
      subst e
      have := (ho.lt p.block rfl).2
      simp
      omega)
    clear hx1 hx2 hx4 hB1 hB4 hK5 ho hB1' hc
    have em : modZ z = (modL (dm z) L, true) := by unfold modZ; rw [e]; rfl
    have hml := modL_len (dm z) L
    refine seqQ rfl rfl (yAssign (v := .bool _) rfl rfl) ?_
    refine seqNil ?_
    refine hF2 _ _ ?_; clear hF2
    refine wpSeq fun F6 hF6 => ?_
    refine wpSeq fun F7 hF7 => ?_
    refine wpRegion ?_
    refine seqQ rfl rfl (yMove (v := .bool _) rfl rfl) ?_
    refine seqQ rfl rfl (yNot rfl rfl) ?_
    refine seqNil ?_
    refine hF7 _ _ ?_; clear hF7
    -- if t17
    refine wpF rfl ?_
    refine wpSkip ?_
    refine hF6 _ _ ?_; clear hF6
    refine wpSeq fun F8 hF8 => ?_
    refine wpRegion ?_
    refine seqN rfl rfl (nBuildSlice (vs := []) rfl Try.underlying22 Try.sizeOf3 Try.zeroValue3 rfl rfl rfl rfl) (fun g18 H18 hx18 hB18 hg18 hl18 => ?_)
    refine seqQ rfl rfl (yAssign (v := .slice _ _ _) rfl rfl) ?_
    refine seqNil ?_
    refine hF8 _ _ ?_; clear hF8
    refine wpSeq fun F9 hF9 => ?_
    refine wpSeq fun F10 hF10 => ?_
    refine wpRegion ?_
    refine seqQ rfl rfl (yFieldAddr rfl Try.underlying27 rfl Try.sizeOf3 rfl rfl) ?_
    refine seqQ rfl rfl (yLoad rfl Try.underlying3 rfl rfl ((b1.ext hx18).cell rfl)) ?_
    refine seqQ rfl rfl (yMove (v := .int _ _) rfl rfl) ?_
    refine seqNil ?_
    refine hF10 _ _ ?_; clear hF10
    -- loop
    refine wpBlock ?_
    refine wpLoopS [6, 7, 8, 9, 10, 21, 22, 23, 24, 25, 26, 27, 28, 29, 30, 31, 32, 33, 34, 35, 36, 37, 38, 39, 40, 41, 42, 43, 44, 45, 46, 47, 48, 49, 50, 51] (fun x : Nat × Value => [(21, .int .i64 x.1), (6, x.2)]) (fun x H' => x.1 ≤ dm z - 1 ∧ Ext H5 H' ∧ Own eInt 3 H' H5.size x.2 ((modL (dm z) L).take x.1)) (fun x => dm z - x.1) (0, .slice (some ⟨g18, 0, none⟩) 0 0) ⟨rfl, rfl, trivial⟩ ⟨Nat.zero_le _, hx18, Own.lit (c := eInt) (l := []) hB18 hg18 (by simp)⟩ ?_
    rintro ⟨x, v⟩ J Hx ⟨hx, hex, hown⟩
    dsimp only at hx hex hown
    refine wpSeq fun F11 hF11 => ?_
    refine wpRegion ?_
    refine seqQ rfl rfl (yLss rfl rfl rfl) ?_
    refine seqNil ?_
    refine hF11 _ _ ?_; clear hF11
    refine wpSeq fun F12 hF12 => ?_
    -- if t22
    refine wpIf rfl (fun hlt => ?_) (fun hlt => ?_)
    · skip
      have hx : x + 1 < dm z := by dsimp only at hlt; omega
      have hlx : ((modL (dm z) L).take x).length = x := by rw [List.length_take]; omega
      have bx := hB.in64 hv (show 0 < dm z by omega) hx
      refine wpSkip ?_
      refine hF12 _ _ ?_; clear hF12
      refine wpSeq fun F13 hF13 => ?_
      refine wpBlock ?_
      refine wpSeq fun F14 hF14 => ?_
      refine wpRegion ?_
      refine seqQ rfl rfl (yMove (v := .int _ _) rfl rfl) ?_
      refine seqQ rfl rfl (yAssign (v := .int _ _) rfl rfl) ?_
      refine seqNil ?_
      refine hF14 _ _ ?_; clear hF14
      refine wpSeq fun F15 hF15 => ?_
      refine wpRegion ?_
      refine seqQ rfl rfl (yLoadB (hB5.ext hex) rfl Try.underlying27 rfl Try.sizeOf27 rfl) ?_
      refine seqQ rfl rfl (yMove (v := .int _ _) rfl rfl) ?_
      refine seqQ rfl rfl (yAddE rfl rfl rfl (by dsimp only; unfold In64; omega) (Int.natCast_succ x).symm) ?_
      -- e slot 27: call F44<(farandole/zone.Zone).at> t24 [i:i64:0] t26
      refine seqE rfl rfl (stepCall rfl Try.call44 rfl ?_)
      refine (at_c ⟨z.N, L⟩ 0 (x + 1) A' ca' _ (rd5.ext hex) hv' (show 0 < dm z by omega) hx).mono ?_
      rintro w H6 ⟨rfl, hx6⟩
      have rd6 := (rd5.ext hex).ext hx6
      replace hown := hown.ext hx6
      replace hex := hex.trans hx6
      clear hx6
      obtain ⟨Av, cv, rfl, -⟩ := hown.form
      refine seqQ rfl rfl (yNeg rfl rfl (by change In64 (-mt (dm z) L 0 (x + 1)); unfold In64; omega)) ?_
      refine seqQ rfl rfl (yAssign (v := .int _ _) rfl rfl) ?_
      refine seqNil ?_
      refine hF15 _ _ ?_; clear hF15
      refine wpSeq fun F16 hF16 => ?_
      refine wpSeq fun F17 hF17 => ?_
      refine wpRegion ?_
      refine seqQ rfl rfl (yMove (v := .slice _ _ _) rfl rfl) ?_
      refine seqQ rfl rfl (yLen rfl Try.underlying22 rfl) ?_
      refine seqQ rfl rfl (yMove (v := .int _ _) rfl rfl) ?_
      refine seqNil ?_
      refine hF17 _ _ ?_; clear hF17
      -- loop
      refine wpBlock ?_
      refine wpLoopS [8, 9, 10, 31, 32, 33, 34, 35, 36, 37, 38, 39, 40, 41, 42, 43, 44, 45, 46] (fun y : Nat => [(31, .int .i64 y), (8, .int .i64 (-mt (dm z) L 0 (x + 1)))]) (fun y H' => y ≤ x ∧ Ext H6 H') (fun y => x - y) 0 ⟨rfl, rfl, trivial⟩ ⟨Nat.zero_le _, Ext.refl _⟩ ?_
      rintro y J2 Hy ⟨hy, hey⟩
      refine wpSeq fun F18 hF18 => ?_
      refine wpRegion ?_
      refine seqQ rfl rfl (yLss rfl rfl rfl) ?_
      refine seqNil ?_
      refine hF18 _ _ ?_; clear hF18
      refine wpSeq fun F19 hF19 => ?_
      -- if t32
      refine wpIf rfl (fun hlt2 => ?_) (fun hlt2 => ?_)
      · skip
        have hy : y < x := by rw [hlx] at hlt2; omega
        have hyl : y < ((modL (dm z) L).take x).length := by omega
        obtain ⟨q, eq, hq⟩ := (Own.rd (hown.ext hey)).2.at1 hyl
        subst eq
        have hval : ((modL (dm z) L).take x)[y] = -mt (dm z) L 0 (y + 1) := by rw [List.getElem_take, modL_get]
        rw [hval] at hq
        have by1 := hB.in64 hv (show 0 < dm z by omega) (show y + 1 < dm z by omega)
        have by2 := hB.in64 hv (show y + 1 < dm z by omega) hx
        have htri := hB.clo 0 (x + 1) (y + 1) (by omega) hx (by omega)
        refine wpSkip ?_
        refine hF19 _ _ ?_; clear hF19
        refine wpSeq fun F20 hF20 => ?_
        refine wpBlock ?_
        refine wpSeq fun F21 hF21 => ?_
        refine wpRegion ?_
        refine seqQ rfl rfl (yMove (v := .int _ _) rfl rfl) ?_
        refine seqQ rfl rfl (yIdx1 rfl Try.underlying22 Try.sizeOf3 rfl rfl rfl hyl) ?_
        refine seqQ rfl rfl (yLoad rfl Try.underlying3 rfl rfl hq) ?_
        refine seqQ rfl rfl (yAssign (v := .int _ _) rfl rfl) ?_
        refine seqQ rfl rfl (yAssign (v := .int _ _) rfl rfl) ?_
        refine seqNil ?_
        refine hF21 _ _ ?_; clear hF21
        refine wpRegion ?_
        refine seqQ rfl rfl (yMove (v := .int _ _) rfl rfl) ?_
        refine seqQ rfl rfl (yMove (v := .int _ _) rfl rfl) ?_
        refine seqQ rfl rfl (yLoadB (hB5.ext (hex.trans hey)) rfl Try.underlying27 rfl Try.sizeOf27 rfl) ?_
        refine seqQ rfl rfl (yMove (v := .int _ _) rfl rfl) ?_
        refine seqQ rfl rfl (yAddE rfl rfl rfl (by unfold In64; omega) (Int.natCast_succ y).symm) ?_
        refine seqQ rfl rfl (yMove (v := .int _ _) rfl rfl) ?_
        refine seqQ rfl rfl (yAddE rfl rfl rfl (by dsimp only; unfold In64; omega) (Int.natCast_succ x).symm) ?_
        -- e slot 43: call F44<(farandole/zone.Zone).at> t38 t40 t42
        refine seqE rfl rfl (stepCall rfl Try.call44 rfl ?_)
        refine (at_c ⟨z.N, L⟩ (y + 1) (x + 1) A' ca' _ (rd6.ext hey) hv' (show y + 1 < dm z by omega) hx).mono ?_
        rintro w H7 ⟨rfl, hx7⟩
        refine seqQ rfl rfl (ySub rfl rfl rfl (by change In64 (-mt (dm z) L 0 (y + 1) - mt (dm z) L (y + 1) (x + 1)); unfold In64; omega)) ?_
        refine seqQ rfl rfl (yMaxE rfl rfl rfl (by change max (-mt (dm z) L 0 (x + 1)) (-mt (dm z) L 0 (y + 1) - mt (dm z) L (y + 1) (x + 1)) = -mt (dm z) L 0 (x + 1); omega)) ?_
        refine seqQ rfl rfl (yAssign (v := .int _ _) rfl rfl) ?_
        refine seqNil ?_
        refine hF20 _ _ ?_; clear hF20
        refine wpRegion ?_
        refine seqQ rfl rfl (yAdd rfl rfl rfl (by unfold In64; omega)) ?_
        refine seqQ rfl rfl (yMove (v := .int _ _) rfl rfl) ?_
        refine seqNil ?_
        -- end loop
        exact loopEnd (y + 1) (by repeat (first | (with_reducible exact Agree.refl _ _) | refine Agree.upd ?_ rfl | refine Agree.over ?_ rfl)) (by omega) ⟨rfl, rfl, trivial⟩ ⟨hy, hey.trans hx7⟩
      · skip
        refine wpExit ?_
        refine hF16 _ _ ?_; clear hF16
        refine wpRegion ?_
        refine seqQ rfl rfl (yMove (v := .slice _ _ _) rfl rfl) ?_
        refine seqQ rfl rfl (yMove (v := .int _ _) rfl rfl) ?_
        refine seqN rfl rfl (nBuildSlice (vs := [.int _ _]) rfl Try.underlying22 Try.sizeOf3 Try.zeroValue3 rfl rfl rfl rfl) (fun g49 H49 hx49 hB49 hg49 hl49 => ?_)
        -- e slot 50: builtin append t47 t49 : [22, 22]
        refine seqE rfl rfl (stepApp (c := eInt) ((hown.ext hey).ext hx49) rfl Try.underlying22 elem_eInt rfl (by omega) rfl rfl rfl (Blk.rd (c := eInt) (l := [-mt (dm z) L 0 (x + 1)]) hB49) (by rw [hlx]; simp; omega) (by have := ((hex.trans hey).trans hx49).size; omega) ?_)
        intro v' H8 hown8 hgrew8
        obtain ⟨A8, c8, rfl, -⟩ := hown8.form
        refine seqQ rfl rfl (yAssign (v := .slice _ _ _) rfl rfl) ?_
        refine seqNil ?_
        refine hF13 _ _ ?_; clear hF13
        refine wpRegion ?_
        refine seqQ rfl rfl (yAdd rfl rfl rfl (by unfold In64; omega)) ?_
        refine seqQ rfl rfl (yMove (v := .int _ _) rfl rfl) ?_
        refine seqNil ?_
        -- end loop
        refine loopEnd (x + 1, _) (by repeat (first | (with_reducible exact Agree.refl _ _) | refine Agree.upd ?_ rfl | refine Agree.over ?_ rfl)) (by dsimp only; omega) ⟨rfl, rfl, trivial⟩ ⟨by dsimp only; omega, hgrew8.ext ((hex.trans hey).trans hx49) (fun g e => (hown.lt g e).1), ?_⟩
        dsimp only
        rw [List.take_succ_eq_append_getElem (by omega), modL_get]
        exact hown8
    · skip
      have ex : x = dm z - 1 := by dsimp only at hlt; omega
      rw [ex, List.take_of_length_le (by omega)] at hown
      obtain ⟨Av, cv, rfl, -⟩ := hown.form
      refine wpExit ?_
      refine hF9 _ _ ?_; clear hF9
      refine wpSeq fun F22 hF22 => ?_
      refine wpRegion ?_
      refine seqQ rfl rfl (yMove (v := .slice _ _ _) rfl rfl) ?_
      refine seqQ rfl rfl (yAssign (v := .slice _ _ _) rfl rfl) ?_
      refine seqQ rfl rfl (yAssign (v := .bool _) rfl rfl) ?_
      refine seqNil ?_
      refine hF22 _ _ ?_; clear hF22
      -- ret
      refine wpRet (fin2 (v := .slice _ _ _) (v' := .bool _) rfl rfl rfl ?_)
      refine ⟨hE.trans hex, _, by rw [em], by rw [em]; exact hown.mono hE.size⟩

/-- The document's Model in work. -/
structure MSt (H H5 : Heap) (g1 g4 : Nat) (z : Zn) (A : Option Addr) (ca : Nat) (L : List Int) (x : Nat) (v : Value) (L' : List Int) (A' : Option Addr) (ca' : Nat) (H' : Heap) : Prop where
  ext : Ext H H'
  sz : H5.size ≤ H'.size
  b1 : Blk H' g1 (znC z A ca) 24
  b4 : Blk H' g4 (znC ⟨z.N, L'⟩ A' ca') 24
  own : Own eInt 3 H' H5.size v ((modL (dm z) L).take x)
  rd : RdM eInt (v.ownBlock.toList ++ [g4]) H' A' L'
  best : Best (dm z) (M0 ⟨z.N, L'⟩) L'
  val : ValZ ⟨z.N, L'⟩
  row : ∀ a, a < dm z → mt (dm z) L' 0 a = mt (dm z) L 0 a
set_option maxRecDepth 100000 in
theorem rModel_c (z : Zn) (A : Option Addr) (ca : Nat) (H : Heap) (hA : Rd eInt H A z.b) (h8 : z.N ≤ 8) :
    CallsH Try.prog 18 [.agg (znC z A ca).toArray] H fun v H' => Ext H H' ∧ ∃ u, v = .tuple #[u, .bool (modZ z).2] ∧ Own eInt 3 H' H.size u (modZ z).1 := by
  refine callsH_of Try.func18 rfl Try.ntmps18 (Nat.le_of_ble_eq_true rfl) ?_
  refine wpSeq fun F1 hF1 => ?_
  refine wpRegion ?_
  refine seqN rfl rfl (nBoxA rfl rfl) (fun g1 H1 hx1 hB1 hg1 hl1 => ?_)
  refine seqQ rfl rfl (yAssign (v := .slice _ _ _) rfl rfl) ?_
  refine seqQ rfl rfl (yAssign (v := .bool _) rfl rfl) ?_
  refine seqNil ?_
  refine hF1 _ _ ?_; clear hF1
  refine wpSeq fun F2 hF2 => ?_
  refine wpRegion ?_
  refine seqQ rfl rfl (yLoadB hB1 rfl Try.underlying24 rfl Try.sizeOf24 rfl) ?_
  -- e slot 11: call F16<farandole/farandoleref13.Close> t10
  refine seqE rfl rfl (stepCall rfl Try.call16 rfl ?_)
  have hc := rClose_c z A ca _ (hA.ext hx1) h8
  rcases closeZ_cases z with ⟨e, _⟩ | ⟨L, e, hv, hB⟩
  · skip
    rw [e] at hc
    refine hc.mono ?_
    rintro v H2 ⟨hx2, u, rfl, A', ca', rfl, ho⟩
    refine seqQ rfl rfl (yMove (v := .tuple _) rfl rfl) ?_
    refine seqQ rfl rfl (yExtract (v := .agg _) rfl rfl rfl) ?_
    refine seqQ rfl rfl (yExtract (v := .bool _) rfl rfl rfl) ?_
    refine seqN rfl rfl (nAlloc rfl Try.zeroValue24 rfl) (fun g4 H4 hx4 hB4 hg4 hl4 => ?_)
    -- e slot None: store T24 t4 t12
    refine seqE0 rfl rfl (stepStoreB rfl (by kernel_rfl) rfl rfl rfl hB4 rfl ?_)
    intro H5 hB5 hK5
    refine seqQ rfl rfl (yAssign (v := .bool _) rfl rfl) ?_
    refine seqNil ?_
    refine hF2 _ _ ?_; clear hF2
    refine wpSeq fun F3 hF3 => ?_
    refine wpSeq fun F4 hF4 => ?_
    refine wpRegion ?_
    refine seqQ rfl rfl (yMove (v := .bool _) rfl rfl) ?_
    refine seqQ rfl rfl (yNot rfl rfl) ?_
    refine seqNil ?_
    refine hF4 _ _ ?_; clear hF4
    -- if t15
    refine wpT rfl ?_
    refine wpSeq fun F5 hF5 => ?_
    refine wpRegion ?_
    refine seqQ rfl rfl (yAssign (v := .slice _ _ _) rfl rfl) ?_
    refine seqQ rfl rfl (yAssign (v := .bool _) rfl rfl) ?_
    refine seqNil ?_
    refine hF5 _ _ ?_; clear hF5
    -- ret
    refine wpRet (fin2 (v := .slice _ _ _) (v' := .bool _) rfl rfl rfl ?_)
    refine ⟨((hx1.trans hx2).trans hx4).mine hK5 (by have := hx1.size; have := hx2.size; simp; omega), _, by unfold modZ; rw [e]; rfl, by unfold modZ; rw [e]; exact Own.nil _ _⟩
  · skip
    rw [e] at hc
    refine hc.mono ?_
    rintro v H2 ⟨hx2, u, rfl, A', ca', rfl, ho⟩
    obtain ⟨d1, d2, d3, d4⟩ := hv.dim
    have hB1' := hB1.lt
    refine seqQ rfl rfl (yMove (v := .tuple _) rfl rfl) ?_
    refine seqQ rfl rfl (yExtract (v := .agg _) rfl rfl rfl) ?_
    refine seqQ rfl rfl (yExtract (v := .bool _) rfl rfl rfl) ?_
    refine seqN rfl rfl (nAlloc rfl Try.zeroValue24 rfl) (fun g4 H4 hx4 hB4 hg4 hl4 => ?_)
    -- e slot None: store T24 t4 t12
    refine seqE0 rfl rfl (stepStoreB rfl (by kernel_rfl) rfl rfl rfl hB4 rfl ?_)
    intro H5 hB5 hK5
    have s1 := hx1.size
    have s2 := hx2.size
    have s4 := hx4.size
    have l4 := hB5.lt
    have l14 : g1 < g4 := by omega
    have h04 : H.size ≤ g4 := by omega
    have st : MSt H H5 g1 g4 z A ca L 0 (.slice none 0 0) L A' ca' H5 :=
      ⟨((hx1.trans hx2).trans hx4).mine hK5 (by simp; omega), Nat.le_refl _, ((hB1.ext hx2).ext hx4).keep hK5 (by simp; omega), hB5, Own.nil _ _, RdM.of (((Own.rd ho).2.ext hx4).keep hK5 (by
        intro p e
        subst e
        have := (ho.lt p.block rfl).2
        simp
        omega)) (by
        intro p e
        subst e
        have := (ho.lt p.block rfl).2
        simp [Value.ownBlock]
        omega), hB.self hv, hB.val hv, fun _ _ => rfl⟩
    clear hx1 hx2 hx4 hB1 hB4 hB5 hK5 ho hB1' hc s1 s2 s4
    have em : modZ z = (modL (dm z) L, true) := by unfold modZ; rw [e]; rfl
    have hml := modL_len (dm z) L
    refine seqQ rfl rfl (yAssign (v := .bool _) rfl rfl) ?_
    refine seqNil ?_
    refine hF2 _ _ ?_; clear hF2
    refine wpSeq fun F6 hF6 => ?_
    refine wpSeq fun F7 hF7 => ?_
    refine wpRegion ?_
    refine seqQ rfl rfl (yMove (v := .bool _) rfl rfl) ?_
    refine seqQ rfl rfl (yNot rfl rfl) ?_
    refine seqNil ?_
    refine hF7 _ _ ?_; clear hF7
    -- if t15
    refine wpF rfl ?_
    refine wpSkip ?_
    refine hF6 _ _ ?_; clear hF6
    refine wpSeq fun F8 hF8 => ?_
    refine wpRegion ?_
    refine seqQ rfl rfl (yAssign (v := .slice _ _ _) rfl rfl) ?_
    refine seqNil ?_
    refine hF8 _ _ ?_; clear hF8
    refine wpSeq fun F9 hF9 => ?_
    refine wpSeq fun F10 hF10 => ?_
    refine wpRegion ?_
    refine seqQ rfl rfl (yAssign (v := .int _ _) rfl rfl) ?_
    refine seqNil ?_
    refine hF10 _ _ ?_; clear hF10
    -- loop
    refine wpBlock ?_
    refine wpLoopS [6, 7, 8, 16, 17, 18, 19, 20, 21, 22, 23, 24, 25, 26, 27, 28, 29, 30, 31, 32, 33, 34, 35, 36, 37, 38, 39, 40, 41, 42, 43, 44, 45] (fun x : Nat × Value × List Int × Option Addr × Nat => [(7, .int .i64 x.1), (6, x.2.1)]) (fun x H' => x.1 ≤ dm z - 1 ∧ MSt H H5 g1 g4 z A ca L x.1 x.2.1 x.2.2.1 x.2.2.2.1 x.2.2.2.2 H') (fun x => dm z - x.1) (0, .slice none 0 0, L, A', ca') ⟨rfl, rfl, trivial⟩ ⟨Nat.zero_le _, st⟩ ?_
    rintro ⟨x, v, L', A', ca'⟩ J Hx ⟨hx, st1⟩
    dsimp only at hx st1
    clear st
    refine wpSeq fun F11 hF11 => ?_
    refine wpSeq fun F12 hF12 => ?_
    refine wpRegion ?_
    refine seqQ rfl rfl (yMove (v := .int _ _) rfl rfl) ?_
    refine seqQ rfl rfl (yFieldAddr rfl Try.underlying24 rfl Try.sizeOf3 rfl rfl) ?_
    refine seqQ rfl rfl (yLoad rfl Try.underlying3 rfl rfl (st1.b1.cell rfl)) ?_
    refine seqQ rfl rfl (yLss rfl rfl rfl) ?_
    refine seqNil ?_
    refine hF12 _ _ ?_; clear hF12
    -- if t19
    refine wpIf rfl (fun hlt => ?_) (fun hlt => ?_)
    · skip
      have hx : x + 1 < dm z := by dsimp only at hlt; omega
      have hlx : ((modL (dm z) L).take x).length = x := by rw [List.length_take]; omega
      obtain ⟨L1, L2, ea, hv1, ec, hv2, hb2, hrow2⟩ := mod_step st1.val st1.best hx
      change addZ ⟨z.N, L'⟩ (x : Int) (-1) (-mt (dm z) L' 0 (x + 1)) = (⟨z.N, L1⟩, 0) at ea
      change closeZ ⟨z.N, L1⟩ = (⟨z.N, L2⟩, true) at ec
      have row := st1.row (x + 1) hx
      have bx := st1.best.in64 st1.val (show 0 < dm z by omega) hx
      change -20000 ≤ mt (dm z) L' 0 (x + 1) ∧ mt (dm z) L' 0 (x + 1) ≤ 20000 at bx
      obtain ⟨q, eq, hq⟩ := rdM st1.rd.rd st1.best.len (show 0 < dm z by omega) hx
      subst eq
      have hidx : (x : Int) + 1 = ((0 * dm z + (x + 1) : Nat) : Int) := by omega
      have hlen' : 0 * dm z + (x + 1) < L'.length := by rw [st1.best.len]; exact idx_lt (by omega) hx
      obtain ⟨Av, cv, rfl, -⟩ := st1.own.form
      refine wpSkip ?_
      refine hF11 _ _ ?_; clear hF11
      refine wpSeq fun F13 hF13 => ?_
      refine wpBlock ?_
      refine wpSeq fun F14 hF14 => ?_
      refine wpRegion ?_
      refine seqQ rfl rfl (yFieldAddr rfl Try.underlying24 rfl Try.sizeOf22 rfl rfl) ?_
      refine seqQ rfl rfl (yLoad rfl Try.underlying22 rfl rfl (st1.b4.cell rfl)) ?_
      refine seqQ rfl rfl (yMove (v := .int _ _) rfl rfl) ?_
      refine seqQ rfl rfl (yAdd rfl rfl rfl (by unfold In64; omega)) ?_
      refine seqQ rfl rfl (yIdx1 rfl Try.underlying22 Try.sizeOf3 rfl rfl hidx hlen') ?_
      refine seqQ rfl rfl (yLoad rfl Try.underlying3 rfl rfl hq) ?_
      refine seqQ rfl rfl (yNeg rfl rfl (by unfold In64; omega)) ?_
      refine seqQ rfl rfl (yAssign (v := .int _ _) rfl rfl) ?_
      refine seqNil ?_
      refine hF14 _ _ ?_; clear hF14
      refine wpSeq fun F15 hF15 => ?_
      refine wpRegion ?_
      refine seqQ rfl rfl (yMove (v := .slice _ _ _) rfl rfl) ?_
      refine seqQ rfl rfl (yMove (v := .int _ _) rfl rfl) ?_
      refine seqN rfl rfl (nBuildSlice (vs := [.int _ _]) rfl Try.underlying22 Try.sizeOf3 Try.zeroValue3 rfl rfl rfl rfl) (fun g31 H31 hx31 hB31 hg31 hl31 => ?_)
      -- e slot 32: builtin append t29 t31 : [22, 22]
      refine seqE rfl rfl (stepApp (c := eInt) (st1.own.ext hx31) rfl Try.underlying22 elem_eInt rfl (by omega) rfl rfl rfl (Blk.rd (c := eInt) (l := [-mt (dm z) L' 0 (x + 1)]) hB31) (by rw [hlx]; simp; omega) (by have := st1.sz; have := hx31.size; omega) ?_)
      intro v' H8 hown8 hgrew8
      obtain ⟨A8, c8, rfl, -⟩ := hown8.form
      have s8 := hgrew8.1.size
      have sz8 := st1.sz
      have s31 := hx31.size
      have t8 : Tr _ Hx _ H8 := (Tr.of_ext hx31 ((Value.slice Av ((modL (dm z) L).take x).length cv).ownBlock.toList ++ [g4])).trans (Tr.grew hgrew8 [g4])
      have rd8 := st1.rd.tr t8
      have g4n : ∀ b, (Value.slice Av ((modL (dm z) L).take x).length cv).ownBlock = some b → b ≠ g4 ∧ b ≠ g1 := fun b hb => by have := (st1.own.lt b hb).1; omega
      have b4 : Blk H8 g4 _ _ := (st1.b4.ext hx31).keep hgrew8.1 (by rw [Option.mem_toList]; exact fun hb => (g4n _ hb).1 rfl)
      have b1 : Blk H8 g1 _ _ := (st1.b1.ext hx31).keep hgrew8.1 (by rw [Option.mem_toList]; exact fun hb => (g4n _ hb).2 rfl)
      have hx8 : Ext H H8 := hgrew8.ext (st1.ext.trans hx31) (fun g e => by have := (st1.own.lt g e).1; have := (hx31.trans (Ext.refl _)).size; omega)
      refine seqQ rfl rfl (yAssign (v := .slice _ _ _) rfl rfl) ?_
      refine seqNil ?_
      refine hF15 _ _ ?_; clear hF15
      refine wpSeq fun F16 hF16 => ?_
      refine wpRegion ?_
      refine seqQ rfl rfl (yLoadB b4 rfl Try.underlying24 rfl Try.sizeOf24 rfl) ?_
      refine seqQ rfl rfl (yMove (v := .int _ _) rfl rfl) ?_
      refine seqQ rfl rfl (yMove (v := .int _ _) rfl rfl) ?_
      refine seqQ rfl rfl (yBuild (pl := [(0, 1), (1, 1), (2, 1)]) (vs := [(0, .int _ _), (1, .int _ _), (2, .int _ _)]) rfl Try.underlying43 Try.zeroValue43 rfl (by unfold Places; kernel_rfl) rfl rfl) ?_
      -- e slot 38: call F24<farandole/farandoleref13.Add> t34 t37
      refine seqE rfl rfl (stepCall rfl Try.call24 rfl ?_)
      have hc := rAdd_c ⟨z.N, L'⟩ (x : Int) (-1) (-mt (dm z) L' 0 (x + 1)) (some q) ca' H8 rd8.rd
      rw [ea] at hc
      refine hc.mono ?_
      rintro w H9 ⟨hx9, u, rfl, A1, ca1, rfl, ho1⟩
      refine seqQ rfl rfl (yMove (v := .tuple _) rfl rfl) ?_
      refine seqQ rfl rfl (yExtract (v := .agg _) rfl rfl rfl) ?_
      refine seqQ rfl rfl (yExtract (v := .int _ _) rfl rfl rfl) ?_
      -- e slot None: store T24 t4 t39
      refine seqE0 rfl rfl (stepStoreB rfl (by kernel_rfl) rfl rfl rfl (b4.ext hx9) rfl ?_)
      intro H10 hB10 hK10
      have s9 := hx9.size
      have s10 := hK10.size
      have rd10 : Rd eInt H10 A1 L1 := (Own.rd ho1).2.keep hK10 (by
        intro p e
        subst e
        have := (ho1.lt p.block rfl).1
        simp
        omega)
      refine seqNil ?_
      refine hF16 _ _ ?_; clear hF16
      refine wpRegion ?_
      refine seqQ rfl rfl (yLoadB hB10 rfl Try.underlying24 rfl Try.sizeOf24 rfl) ?_
      -- e slot 43: call F16<farandole/farandoleref13.Close> t42
      refine seqE rfl rfl (stepCall rfl Try.call16 rfl ?_)
      have hc2 := rClose_c ⟨z.N, L1⟩ A1 ca1 H10 rd10 h8
      rw [ec] at hc2
      refine hc2.mono ?_
      rintro w H11 ⟨hx11, u, rfl, A2, ca2, rfl, ho2⟩
      refine seqQ rfl rfl (yMove (v := .tuple _) rfl rfl) ?_
      refine seqQ rfl rfl (yExtract (v := .agg _) rfl rfl rfl) ?_
      refine seqQ rfl rfl (yExtract (v := .bool _) rfl rfl rfl) ?_
      -- e slot None: store T24 t4 t44
      refine seqE0 rfl rfl (stepStoreB rfl (by kernel_rfl) rfl rfl rfl (hB10.ext hx11) rfl ?_)
      intro H12 hB12 hK12
      have s11 := hx11.size
      have s12 := hK12.size
      refine seqNil ?_
      refine hF13 _ _ ?_; clear hF13
      refine wpRegion ?_
      refine seqQ rfl rfl (yMove (v := .int _ _) rfl rfl) ?_
      refine seqQ rfl rfl (yAdd rfl rfl rfl (by unfold In64; omega)) ?_
      refine seqQ rfl rfl (yAssign (v := .int _ _) rfl rfl) ?_
      refine seqNil ?_
      -- end loop
      have g4n' : ∀ b, (Value.slice A8 ((modL (dm z) L).take x ++ [-mt (dm z) L' 0 (x + 1)]).length c8).ownBlock = some b → b ≠ g4 := fun b hb => by have := (hown8.lt b hb).1; omega
      refine loopEnd (x + 1, _, L2, A2, ca2) (by repeat (first | (with_reducible exact Agree.refl _ _) | refine Agree.upd ?_ rfl | refine Agree.over ?_ rfl)) (by dsimp only; omega) ⟨rfl, rfl, trivial⟩ ⟨by dsimp only; omega, ?_⟩
      dsimp only
      refine ⟨(((hx8.trans hx9).mine hK10 (by simpa using h04)).trans hx11).mine hK12 (by simpa using h04), by omega, (((b1.ext hx9).keep hK10 (by simp; omega)).ext hx11).keep hK12 (by simp; omega), hB12, ?_, ?_, hb2, hv2, fun a ha => (hrow2 a ha).trans (st1.row a ha)⟩
      · rw [List.take_succ_eq_append_getElem (by omega), modL_get, ← row]
        exact (((hown8.ext hx9).keep hK10 (fun b hb => by simpa using g4n' b hb)).ext hx11).keep hK12 (fun b hb => by simpa using g4n' b hb)
      · refine (ho2.rdM (M := (Value.slice A8 ((modL (dm z) L).take x ++ [-mt (dm z) L' 0 (x + 1)]).length c8).ownBlock.toList ++ [g4]) ?_).tr (Tr.store hK12 (by simp))
        intro b hb
        rcases List.mem_append.1 hb with hb | hb
        · rw [Option.mem_toList] at hb
          have := (hown8.lt b hb).2
          omega
        · simp at hb
          omega
    · skip
      have ex : x = dm z - 1 := by dsimp only at hlt; omega
      have hown := st1.own
      rw [ex, List.take_of_length_le (by omega)] at hown
      obtain ⟨Av, cv, rfl, -⟩ := hown.form
      refine wpExit ?_
      refine hF9 _ _ ?_; clear hF9
      refine wpSeq fun F17 hF17 => ?_
      refine wpRegion ?_
      refine seqQ rfl rfl (yMove (v := .slice _ _ _) rfl rfl) ?_
      refine seqQ rfl rfl (yAssign (v := .slice _ _ _) rfl rfl) ?_
      refine seqQ rfl rfl (yAssign (v := .bool _) rfl rfl) ?_
      refine seqNil ?_
      refine hF17 _ _ ?_; clear hF17
      -- ret
      refine wpRet (fin2 (v := .slice _ _ _) (v' := .bool _) rfl rfl rfl ?_)
      have := st1.ext.size
      refine ⟨st1.ext, _, by rw [em], by rw [em]; exact hown.mono (by omega)⟩
end Go.Proofs.Ytjkbkmbblidipaa
