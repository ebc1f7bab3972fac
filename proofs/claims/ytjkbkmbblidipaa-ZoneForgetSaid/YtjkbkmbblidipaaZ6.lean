/- Zones: Close. -/
import Derived.Test.YtjkbkmbblidipaaZ5
namespace Go.Proofs.Ytjkbkmbblidipaa
open Go.RowKit

/- How large the numbers become. -/
section
variable {n : Nat} {u : Nat → Nat → List Int → Int}
set_option maxRecDepth 100000 in
theorem sI_inv2 {L : List Int} (Inv : Nat → Nat → List Int → Prop) (h0 : Inv 0 0 L) (hs : ∀ i j K, i < n → j < n → K.length = L.length → Inv i j K → Inv i (j + 1) (K.set (i * n + j) (u i j K))) (hr : ∀ i K, Inv i n K → Inv (i + 1) 0 K) :
    ∀ i, i < n → ∀ j, j ≤ n → Inv i j (sJ n u i j (sI n u i L)) := by
  intro i hi j
  induction j with
  | zero => intro _; exact sI_inv (u := u) Inv h0 hs hr i (by omega)
  | succ j ih => intro hj; exact hs i j _ hi (by omega) (by rw [sJ_len, sI_len]) (ih (by omega))
def Bnd (n : Nat) (b : Int) (L : List Int) : Prop := ∀ a c, a < n → c < n → -b ≤ mt n L a c ∧ mt n L a c ≤ 20000
def BInv (n k : Nat) (b : Int) (L : List Int) (i j : Nat) (K : List Int) : Prop := (∀ a c, a < n → c < n → ¬ Bef i j a c → mt n K a c = mt n L a c) ∧ Bnd n (6 * b) K ∧ -(2 * b) ≤ mt n K k k ∧ ∀ a, a < n → -(3 * b) ≤ mt n K a k ∧ -(3 * b) ≤ mt n K k a
set_option maxRecDepth 100000 in
theorem rx_bd {k : Nat} {b : Int} {L : List Int} (hb : 0 ≤ b) (hk : k < n) (hl : L.length = n * n) (hL : Bnd n b L) :
    BInv n k b L 0 0 L ∧ (∀ i j K, i < n → j < n → K.length = L.length → BInv n k b L i j K → BInv n k b L i (j + 1) (K.set (i * n + j) (rx id n k i j K))) ∧ (∀ i K, BInv n k b L i n K → BInv n k b L (i + 1) 0 K) := by
  refine ⟨⟨fun _ _ _ _ _ => rfl, fun a c ha hc => ?_, ?_, fun a ha => ?_⟩, ?_, ?_⟩
  · have := hL a c ha hc; omega
  · have := hL k k hk hk; omega
  · have h1 := hL a k ha hk; have h2 := hL k a hk ha; omega
  · rintro i j K hi hj hK ⟨h1, h2, h3, h4⟩
    have hKl := hK.trans hl
    have e0 := h1 i j hi hj (by unfold Bef; omega)
    have b0 := hL i j hi hj
    have hv : rx id n k i j K = min (mt n L i j) (mt n K i k + mt n K k j) := by unfold rx; rw [e0]; rfl
    have c1 := h4 i hi
    have c2 := h4 j hj
    have hvk : (i = k → j = k → -(2 * b) ≤ rx id n k i j K) ∧ (j = k → -(3 * b) ≤ rx id n k i j K) ∧ (i = k → -(3 * b) ≤ rx id n k i j K) ∧ -(6 * b) ≤ rx id n k i j K ∧ rx id n k i j K ≤ 20000 := by
      rw [hv]
      refine ⟨?_, ?_, ?_, by omega, by omega⟩
      · intro e1 e2
        have := h1 i j hi hj (by unfold Bef; omega)
        subst e1 e2
        omega
      · intro e2
        have := h1 i j hi hj (by unfold Bef; omega)
        subst e2
        omega
      · intro e1
        have := h1 i j hi hj (by unfold Bef; omega)
        subst e1
        omega
    refine ⟨fun a c ha hc hn => ?_, fun a c ha hc => ?_, ?_, fun a ha => ⟨?_, ?_⟩⟩
    · rw [mt_set hKl hi hj hc, if_neg (by unfold Bef at hn; omega)]
      exact h1 a c ha hc (by unfold Bef at *; omega)
    · rw [mt_set hKl hi hj hc]
      split
      · exact hvk.2.2.2
      · exact h2 a c ha hc
    · rw [mt_set hKl hi hj hk]
      split
      · rename_i e; exact hvk.1 e.1.symm e.2.symm
      · exact h3
    · rw [mt_set hKl hi hj hk]
      split
      · rename_i e; exact hvk.2.1 e.2.symm
      · exact (h4 a ha).1
    · rw [mt_set hKl hi hj ha]
      split
      · rename_i e; exact hvk.2.2.1 e.1.symm
      · exact (h4 a ha).2
  · rintro i K ⟨h1, h2⟩
    exact ⟨fun a c ha hc hn => h1 a c ha hc (by unfold Bef at *; omega), h2⟩
set_option maxRecDepth 100000 in
theorem rx_mid {k : Nat} {b : Int} {L : List Int} (hb : 0 ≤ b) (hk : k < n) (hl : L.length = n * n) (hL : Bnd n b L) {i j : Nat} (hi : i < n) (hj : j ≤ n) : Bnd n (6 * b) (sJ n (rx id n k) i j (sI n (rx id n k) i L)) :=
  let h := rx_bd hb hk hl hL
  (sI_inv2 (u := rx id n k) _ h.1 h.2.1 h.2.2 i hi j hj).2.1
set_option maxRecDepth 100000 in
theorem rx_end {k : Nat} {b : Int} {L : List Int} (hb : 0 ≤ b) (hk : k < n) (hl : L.length = n * n) (hL : Bnd n b L) : Bnd n (6 * b) (sI n (rx id n k) n L) :=
  let h := rx_bd hb hk hl hL
  (sI_inv (u := rx id n k) _ h.1 h.2.1 h.2.2 n (Nat.le_refl _)).2.1
def bdN : Nat → Int
  | 0 => 20001
  | k + 1 => 6 * bdN k
set_option maxRecDepth 100000 in
theorem bdN_pos : ∀ k, 0 ≤ bdN k
  | 0 => by unfold bdN; omega
  | k + 1 => by have := bdN_pos k; unfold bdN; omega
set_option maxRecDepth 100000 in
theorem bdN_le {k : Nat} (h : k ≤ 9) : bdN k ≤ 1000000000000 := by
  have : k = 0 ∨ k = 1 ∨ k = 2 ∨ k = 3 ∨ k = 4 ∨ k = 5 ∨ k = 6 ∨ k = 7 ∨ k = 8 ∨ k = 9 := by omega
  rcases this with rfl | rfl | rfl | rfl | rfl | rfl | rfl | rfl | rfl | rfl <;> decide
set_option maxRecDepth 100000 in
theorem fw_bd {L : List Int} (hl : L.length = n * n) (hL : Bnd n 20001 L) : ∀ k, k ≤ n → Bnd n (bdN k) (fw id n k L)
  | 0, _ => hL
  | k + 1, hk => rx_end (bdN_pos k) (by omega) (by rw [fw_len, hl]) (fw_bd hl hL k (by omega))
set_option maxRecDepth 100000 in
/-- The document's way stays small. -/
theorem rc_bd {k : Nat} {L : List Int} (_ : k < n) (hl : L.length = n * n) (hL : Bnd n 20001 L) :
    (∀ i, i < n → ∀ j, j ≤ n → Bnd n 20001 (sJ n (rx (max (-20001)) n k) i j (sI n (rx (max (-20001)) n k) i L))) ∧ Bnd n 20001 (sI n (rx (max (-20001)) n k) n L) := by
  have hs : ∀ i j K, i < n → j < n → K.length = L.length → Bnd n 20001 K → Bnd n 20001 (K.set (i * n + j) (rx (max (-20001)) n k i j K)) := by
    intro i j K hi hj hK h a c ha hc
    rw [mt_set (hK.trans hl) hi hj hc]
    split
    · have h1 := h i j hi hj
      unfold rx
      omega
    · exact h a c ha hc
  exact ⟨sI_inv2 (u := rx (max (-20001)) n k) (fun _ _ K => Bnd n 20001 K) hL hs (fun _ _ h => h), sI_inv (u := rx (max (-20001)) n k) (fun _ _ K => Bnd n 20001 K) hL hs (fun _ _ h => h) n (Nat.le_refl _)⟩
set_option maxRecDepth 100000 in
theorem rfw_bd {L : List Int} (hl : L.length = n * n) (hL : Bnd n 20001 L) : ∀ k, k ≤ n → Bnd n 20001 (fw (max (-20001)) n k L)
  | 0, _ => hL
  | k + 1, hk => (rc_bd (by omega) (by rw [fw_len, hl]) (rfw_bd hl hL k (by omega))).2
end
set_option maxRecDepth 100000 in
theorem m0L_bd {z : Zn} (hv : ValZ z) : Bnd (dm z) 20001 (m0L (dm z) z.b) := fun a c ha hc => by
  rw [m0L_mt hv.dim.2.2.2 ha hc]
  have h1 := hv.bd ha hc
  have h2 := ful_le a c
  have h3 := ful_ge a c
  omega
set_option maxRecDepth 100000 in
theorem Bnd.sum {n : Nat} {b : Int} {L : List Int} (h : Bnd n b L) (hb : b ≤ 1000000000000) {i j k : Nat} (hi : i < n) (hj : j < n) (hk : k < n) : In64 (mt n L i k + mt n L k j) := by
  have h1 := h i k hi hk
  have h2 := h k j hk hj
  unfold In64
  omega
set_option maxRecDepth 100000 in
theorem closeZ_f {z : Zn} (hd : ¬ Dg (dm z) (mt (dm z) (closeL (dm z) z.b))) : closeZ z = (zn0, false) := if_neg fun h => hd h.2
set_option maxRecDepth 100000 in
theorem closeZ_t {z : Zn} (hv : ValZ z) (hd : Dg (dm z) (mt (dm z) (closeL (dm z) z.b))) : closeZ z = (⟨z.N, closeL (dm z) z.b⟩, true) := if_pos ⟨hv, hd⟩

set_option maxRecDepth 100000 in
theorem close_c (z : Zn) (A : Option Addr) (ca : Nat) (H : Heap) (hA : Rd eInt H A z.b) (h8 : z.N ≤ 8) :
    CallsH Try.prog 14 [.agg (znC z A ca).toArray] H fun v H' => Ext H H' ∧ ∃ u, v = .tuple #[u, .bool (closeZ z).2] ∧ ZO H' H.size u (closeZ z).1 := by
  refine callsH_of Try.func14 rfl Try.ntmps14 (Nat.le_of_ble_eq_true rfl) ?_
  refine wpSeq fun F1 hF1 => ?_
  refine wpRegion ?_
  refine seqN rfl rfl (nBoxA rfl rfl) (fun g1 H1 hx1 hB1 hg1 hl1 => ?_)
  refine seqN rfl rfl (nAlloc rfl Try.zeroValue27 rfl) (fun g2 H2 hx2 hB2 hg2 hl2 => ?_)
  refine seqQ rfl rfl (yAssign (v := .bool _) rfl rfl) ?_
  refine seqNil ?_
  refine hF1 _ _ ?_; clear hF1
  refine wpSeq fun F2 hF2 => ?_
  refine wpSeq fun F3 hF3 => ?_
  refine wpRegion ?_
  refine seqQ rfl rfl (yLoadB (hB1.ext hx2) rfl Try.underlying27 rfl Try.sizeOf27 rfl) ?_
  -- e slot 13: call F27<farandole/zone.Valid> t12
  refine seqE rfl rfl (stepCall rfl Try.call27 rfl ?_)
  refine (zvalid_c z A ca _ ((hA.ext hx1).ext hx2)).mono ?_
  rintro v H3 ⟨rfl, hx3⟩
  have hE := (hx1.trans hx2).trans hx3
  have s1 := hx1.size
  replace hB1 := (hB1.ext hx2).ext hx3
  replace hB2 := hB2.ext hx3
  clear hx1 hx2 hx3
  refine seqQ rfl rfl (yNot rfl rfl) ?_
  refine seqNil ?_
  refine hF3 _ _ ?_; clear hF3
  -- if t14
  refine wpCond rfl (fun hv => ?_) (fun hv => ?_)
  · skip
    have hv : ¬ ValZ z := by simpa using hv
    refine wpSeq fun F4 hF4 => ?_
    refine wpRegion ?_
    refine seqQ rfl rfl (yBuild (pl := [(0, 1), (1, 1)]) (vs := []) rfl Try.underlying27 Try.zeroValue27 rfl (by unfold Places; kernel_rfl) rfl rfl) ?_
    -- e slot None: store T27 t2 t15
    refine seqE0 rfl rfl (stepStoreB rfl (by kernel_rfl) rfl rfl rfl hB2 rfl ?_)
    intro H6 hB6 hK6
    refine seqQ rfl rfl (yAssign (v := .bool _) rfl rfl) ?_
    refine seqNil ?_
    refine hF4 _ _ ?_; clear hF4
    -- ret
    refine wpRet (finR2 rfl (resC Try.underlying27 rfl (by kernel_rfl) rfl hB6) (resT (v := .bool _) rfl) ?_)
    rw [closeZ_bad hv]
    exact ⟨hE.mine hK6 (by simp; omega), _, rfl, ZO.zero _ _⟩
  · skip
    have hv : ValZ z := by simpa using hv
    obtain ⟨d1, d2, d3, d4⟩ := hv.dim
    have hpos : 0 < z.b.length := by rw [d4]; exact Nat.mul_pos d2 d2
    refine wpSkip ?_
    refine hF2 _ _ ?_; clear hF2
    refine wpSeq fun F5 hF5 => ?_
    refine wpRegion ?_
    refine seqQ rfl rfl (yFieldAddr rfl Try.underlying27 rfl Try.sizeOf3 rfl rfl) ?_
    refine seqQ rfl rfl (yLoad rfl Try.underlying3 rfl rfl (hB1.cell rfl)) ?_
    refine seqQ rfl rfl (yAddE rfl rfl rfl (by unfold In64; omega) hv.succ) ?_
    refine seqQ rfl rfl (yAssign (v := .int _ _) rfl rfl) ?_
    refine seqNil ?_
    refine hF5 _ _ ?_; clear hF5
    refine wpSeq fun F6 hF6 => ?_
    refine wpRegionD Try_mixed [.q, .q, .q, .q, .e, .q, .n, .e] 7 [0, 1, 0, 4, 12, 31, 0, 127] [] (by kernel_rfl) _ rfl [0, 1, 2, 3, 4, 5, 6] rfl (by simp) ?_
    refine lexQ rfl rfl rfl rfl (fun H hM => (yFieldAddr rfl Try.underlying27 rfl Try.sizeOf3 rfl rfl)) ?_
    refine lexQ rfl rfl rfl rfl (fun H hM => (yLoad rfl Try.underlying3 rfl rfl (hM.ext.cell (hB1.cell rfl)))) ?_
    refine lexQ rfl rfl rfl rfl (fun H hM => (yFieldAddr rfl Try.underlying27 rfl Try.sizeOf22 rfl rfl)) ?_
    refine lexQ rfl rfl rfl rfl (fun H hM => (yLoad rfl Try.underlying22 rfl rfl (hM.ext.cell (hB1.cell rfl)))) ?_
    -- e slot 23: call F41<slices.Clone[[]int,int]> t22
    refine lexE rfl rfl rfl rfl (fun H23 hX23 hM23 hN23 => stepCall rfl Try.call41 rfl ?_)
    refine (cloneI_c A ca z.b _ ((hA.ext hE).ext hX23) (by have := mul25 d3 d3; omega)).mono ?_
    rintro v H8 ⟨hown, hx8⟩
    obtain ⟨A', ca', rfl, -, hrd, hb⟩ := hown.form
    obtain ⟨p, rfl, hp⟩ := hrd.at1 hpos
    obtain ⟨hb1, hb2, hb3⟩ := hb p rfl
    refine lexFr (F := [p.block]) hx8 (by simp; omega) (by simp) ?_
    refine lexQ rfl rfl rfl rfl (fun H hM => (yBuild (pl := [(0, 1), (1, 1)]) (vs := [(0, .int _ _), (1, .slice _ _ _)]) rfl Try.underlying27 Try.zeroValue27 rfl (by unfold Places; kernel_rfl) rfl rfl)) ?_
    refine lexNB rfl rfl rfl rfl (nAlloc rfl Try.zeroValue27 rfl) (fun g5 hg5 hne5 => ?_)
    -- tail
    refine lexNilM (fun Hf hXf hMf hNf hFf => ?_)
    have hB5 := NF.blk 6 hNf (.head _)
    have n5 : g5 ≠ p.block := by simpa using hFf _ (.head _)
    -- e slot None: store T27 t5 t24
    refine seqE0 rfl rfl (stepStoreB rfl (by kernel_rfl) rfl rfl rfl hB5 rfl ?_)
    intro H9 hB9 hK9
    have hXX := (hX23.trans hx8).trans hXf
    have sX := hX23.size
    have sE := hE.size
    have l2 := hB2.lt
    have st : ZSt H g2 g5 27 z.N p z.b.length ca' z.b H9 :=
      ⟨(hE.trans hXX).mine hK9 (by simp; omega), ((hown.mono (by omega)).ext hXf).keep hK9 (by intro b e; obtain rfl := Option.some.inj e; simp; exact fun h => n5 h.symm), (hB2.ext hXX).keep hK9 (by simp; omega), hB9, by omega, n5, by omega, by omega⟩
    clear hXX hXf hX23 hx8 hB2 hB9 hK9 hB5 hown hrd hb hE hB1 l2 sX sE
    refine seqNil ?_
    refine hF6 _ _ ?_; clear hF6
    refine wpSeq fun F7 hF7 => ?_
    refine wpSeq fun F8 hF8 => ?_
    refine wpRegion ?_
    refine seqQ rfl rfl (yMove (v := .int _ _) rfl rfl) ?_
    refine seqQ rfl rfl (yMove (v := .int _ _) rfl rfl) ?_
    refine seqNil ?_
    refine hF8 _ _ ?_; clear hF8
    -- loop
    refine wpBlock ?_
    refine wpLoopS [6, 7, 26, 27, 28, 29, 30, 31, 32, 33, 34, 35, 36, 37, 38, 39, 40, 41, 42, 43, 44, 45, 46, 47, 48, 49, 50, 51, 52, 53, 54, 55] (fun i : Nat => [(26, .int .i64 i)]) (fun i H' => i ≤ dm z ∧ ZSt H g2 g5 27 z.N p z.b.length ca' (sI (dm z) (fun i j K => min (mt (dm z) K i j) (ful i j)) i z.b) H') (fun i => dm z - i) 0 ⟨rfl, trivial⟩ ⟨Nat.zero_le _, st⟩ ?_
    rintro i J Hi ⟨hi, st1⟩
    clear st
    refine wpSeq fun F9 hF9 => ?_
    refine wpRegion ?_
    refine seqQ rfl rfl (yLss rfl rfl rfl) ?_
    refine seqNil ?_
    refine hF9 _ _ ?_; clear hF9
    refine wpSeq fun F10 hF10 => ?_
    -- if t27
    refine wpIf rfl (fun hlt => ?_) (fun hlt => ?_)
    · skip
      have hi : i < dm z := by omega
      refine wpSkip ?_
      refine hF10 _ _ ?_; clear hF10
      refine wpSeq fun F11 hF11 => ?_
      refine wpBlock ?_
      refine wpSeq fun F12 hF12 => ?_
      refine wpRegion ?_
      refine seqQ rfl rfl (yMove (v := .int _ _) rfl rfl) ?_
      refine seqQ rfl rfl (yAssign (v := .int _ _) rfl rfl) ?_
      refine seqNil ?_
      refine hF12 _ _ ?_; clear hF12
      refine wpSeq fun F13 hF13 => ?_
      refine wpRegion ?_
      refine seqQ rfl rfl (yMove (v := .int _ _) rfl rfl) ?_
      refine seqQ rfl rfl (yMove (v := .int _ _) rfl rfl) ?_
      refine seqNil ?_
      refine hF13 _ _ ?_; clear hF13
      -- loop
      refine wpBlock ?_
      refine wpLoopS [7, 30, 31, 32, 33, 34, 35, 36, 37, 38, 39, 40, 41, 42, 43, 44, 45, 46, 47, 48, 49, 50, 51, 52, 53, 54] (fun j : Nat => [(30, .int .i64 j)]) (fun j H' => j ≤ dm z ∧ ZSt H g2 g5 27 z.N p z.b.length ca' (sJ (dm z) (fun i j K => min (mt (dm z) K i j) (ful i j)) i j (sI (dm z) (fun i j K => min (mt (dm z) K i j) (ful i j)) i z.b)) H') (fun j => dm z - j) 0 ⟨rfl, trivial⟩ ⟨Nat.zero_le _, st1⟩ ?_
      rintro j K Hj ⟨hj, st2⟩
      clear st1
      refine wpSeq fun F14 hF14 => ?_
      refine wpRegion ?_
      refine seqQ rfl rfl (yLss rfl rfl rfl) ?_
      refine seqNil ?_
      refine hF14 _ _ ?_; clear hF14
      refine wpSeq fun F15 hF15 => ?_
      -- if t31
      refine wpIf rfl (fun hlt2 => ?_) (fun hlt2 => ?_)
      · skip
        have hj : j < dm z := by omega
        have hl2 : (sJ (dm z) (fun i j K => min (mt (dm z) K i j) (ful i j)) i j (sI (dm z) (fun i j K => min (mt (dm z) K i j) (ful i j)) i z.b)).length = dm z * dm z := by rw [sJ_len, sI_len, d4]
        have hix := idx_lt hi hj
        have hat := st2.at_ hl2 hi hj
        refine wpSkip ?_
        refine hF15 _ _ ?_; clear hF15
        refine wpSeq fun F16 hF16 => ?_
        refine wpBlock ?_
        refine wpSeq fun F17 hF17 => ?_
        refine wpRegion ?_
        refine seqQ rfl rfl (yMove (v := .int _ _) rfl rfl) ?_
        refine seqQ rfl rfl (yAssign (v := .int _ _) rfl rfl) ?_
        refine seqNil ?_
        refine hF17 _ _ ?_; clear hF17
        refine wpRegionD Try_mixed [.q, .q, .q, .q, .q, .q, .q, .q, .q, .q, .q, .q, .q, .q, .q, .q, .q, .q, .e, .q, .q, .e] 20 [0, 1, 0, 0, 12, 0, 60, 0, 128, 0, 0, 1536, 0, 7680, 16256, 32640, 0, 0, 196608, 524160, 1048575, 2097151] [] (by kernel_rfl) _ rfl [0, 1, 2, 3, 4, 5, 6, 7, 8, 9, 10, 11, 12, 13, 14, 15, 16, 17, 18, 19] rfl (by simp) ?_
        refine lexQ rfl rfl rfl rfl (fun H hM => (yFieldAddr rfl Try.underlying27 rfl Try.sizeOf22 rfl rfl)) ?_
        refine lexQ rfl rfl rfl rfl (fun H hM => (yLoad rfl Try.underlying22 rfl rfl (hM.ext.cell (st2.b5.cell rfl)))) ?_
        refine lexQ rfl rfl rfl rfl (fun H hM => (yMove (v := .int _ _) rfl rfl)) ?_
        refine lexQ rfl rfl rfl rfl (fun H hM => (yMove (v := .int _ _) rfl rfl)) ?_
        refine lexQ rfl rfl rfl rfl (fun H hM => (yMul rfl rfl rfl (mul_in (by omega) d3))) ?_
        refine lexQ rfl rfl rfl rfl (fun H hM => (yMove (v := .int _ _) rfl rfl)) ?_
        refine lexQ rfl rfl rfl rfl (fun H hM => (yAdd rfl rfl rfl (add_in (by omega) d3 (by omega)))) ?_
        refine lexQ rfl rfl rfl rfl (fun H hM => (yFieldAddr rfl Try.underlying27 rfl Try.sizeOf22 rfl rfl)) ?_
        refine lexQ rfl rfl rfl rfl (fun H hM => (yLoad rfl Try.underlying22 rfl rfl (hM.ext.cell (st2.b5.cell rfl)))) ?_
        refine lexQ rfl rfl rfl rfl (fun H hM => (yMove (v := .int _ _) rfl rfl)) ?_
        refine lexQ rfl rfl rfl rfl (fun H hM => (yMove (v := .int _ _) rfl rfl)) ?_
        refine lexQ rfl rfl rfl rfl (fun H hM => (yMul rfl rfl rfl (mul_in (by omega) d3))) ?_
        refine lexQ rfl rfl rfl rfl (fun H hM => (yMove (v := .int _ _) rfl rfl)) ?_
        refine lexQ rfl rfl rfl rfl (fun H hM => (yAdd rfl rfl rfl (add_in (by omega) d3 (by omega)))) ?_
        refine lexQ rfl rfl rfl rfl (fun H hM => (yIdx1 rfl Try.underlying22 Try.sizeOf3 rfl rfl idx_e (by rw [d4]; exact hix))) ?_
        refine lexQ rfl rfl rfl rfl (fun H hM => (yLoad rfl Try.underlying3 rfl rfl (hM.ext.cell hat))) ?_
        refine lexQ rfl rfl rfl rfl (fun H hM => (yMove (v := .int _ _) rfl rfl)) ?_
        refine lexQ rfl rfl rfl rfl (fun H hM => (yMove (v := .int _ _) rfl rfl)) ?_
        -- e slot 51: call F42<farandole/zone.full> t49 t50
        refine lexX0 rfl rfl rfl rfl rfl (by simp) (fun hM51 => stepCall rfl Try.call42 rfl ?_)
        refine (full_c i j _).mono ?_
        rintro v _ ⟨rfl, e⟩
        obtain rfl := e.symm
        clear e
        refine ⟨Ext.refl _, fun _ => ?_⟩
        refine lexQ rfl rfl rfl rfl (fun H hM => (yMin rfl rfl rfl)) ?_
        -- tail
        refine lexNil0 rfl (fun hM => ?_)
        refine seqQ rfl rfl (yIdx1 rfl Try.underlying22 Try.sizeOf3 rfl rfl idx_e (by rw [d4]; exact hix)) ?_
        -- e slot None: store T3 t53 t52
        refine seqE0 rfl rfl (stepStoreOwn st2.own rfl Try.sizeOf3 rfl rfl rfl rfl (by rw [hl2]; exact hix) ?_)
        intro H5 hown5 hK5
        refine seqNil ?_
        refine hF16 _ _ ?_; clear hF16
        refine wpRegion ?_
        refine seqQ rfl rfl (yAdd rfl rfl rfl (by unfold In64; omega)) ?_
        refine seqQ rfl rfl (yMove (v := .int _ _) rfl rfl) ?_
        refine seqNil ?_
        -- end loop
        exact loopEnd (j + 1) (by repeat (first | (with_reducible exact Agree.refl _ _) | refine Agree.upd ?_ rfl | refine Agree.over ?_ rfl)) (by omega) ⟨rfl, trivial⟩ ⟨hj, st2.store hown5 hK5⟩
      · skip
        obtain rfl : j = dm z := by omega
        refine wpExit ?_
        refine hF11 _ _ ?_; clear hF11
        refine wpRegion ?_
        refine seqQ rfl rfl (yAdd rfl rfl rfl (by unfold In64; omega)) ?_
        refine seqQ rfl rfl (yMove (v := .int _ _) rfl rfl) ?_
        refine seqNil ?_
        -- end loop
        exact loopEnd (i + 1) (by repeat (first | (with_reducible exact Agree.refl _ _) | refine Agree.upd ?_ rfl | refine Agree.over ?_ rfl)) (by omega) ⟨rfl, trivial⟩ ⟨hi, st2⟩
    · skip
      have ei : i = dm z := by omega
      rw [ei] at st1
      clear ei hlt hi
      have hl0 : (m0L (dm z) z.b).length = dm z * dm z := by rw [m0L_len, d4]
      have hb0 := m0L_bd hv
      refine wpExit ?_
      refine hF7 _ _ ?_; clear hF7
      refine wpSeq fun F18 hF18 => ?_
      refine wpSeq fun F19 hF19 => ?_
      refine wpRegion ?_
      refine seqQ rfl rfl (yMove (v := .int _ _) rfl rfl) ?_
      refine seqQ rfl rfl (yMove (v := .int _ _) rfl rfl) ?_
      refine seqNil ?_
      refine hF19 _ _ ?_; clear hF19
      -- loop
      refine wpBlock ?_
      refine wpLoopS [3, 8, 9, 10, 11, 57, 58, 59, 60, 61, 62, 63, 64, 65, 66, 67, 68, 69, 70, 71, 72, 73, 74, 75, 76, 77, 78, 79, 80, 81, 82, 83, 84, 85, 86, 87, 88, 89, 90, 91, 92, 93, 94, 95, 96, 97, 98, 99, 100, 101, 102, 103, 104, 105, 106, 107, 108, 109, 110, 111, 112, 113, 114, 115, 116, 117, 118, 119, 120, 121, 122, 123] (fun k : Nat => [(57, .int .i64 k)]) (fun k H' => k ≤ dm z ∧ ZSt H g2 g5 27 z.N p z.b.length ca' (fw id (dm z) k (m0L (dm z) z.b)) H' ∧ (0 < k → Dg (dm z) (mt (dm z) (fw id (dm z) k (m0L (dm z) z.b))))) (fun k => dm z - k) 0 ⟨rfl, trivial⟩ ⟨Nat.zero_le _, st1, fun h => absurd h (by omega)⟩ ?_
      rintro k J2 Hk ⟨hk, st3, hdg⟩
      clear st1
      refine wpSeq fun F20 hF20 => ?_
      refine wpRegion ?_
      refine seqQ rfl rfl (yLss rfl rfl rfl) ?_
      refine seqNil ?_
      refine hF20 _ _ ?_; clear hF20
      refine wpSeq fun F21 hF21 => ?_
      -- if t58
      refine wpIf rfl (fun hlt => ?_) (fun hlt => ?_)
      · skip
        have hk : k < dm z := by omega
        have hlk : (fw id (dm z) k (m0L (dm z) z.b)).length = dm z * dm z := by rw [fw_len, hl0]
        have hbk := fw_bd hl0 hb0 k (by omega)
        have hbp := bdN_pos k
        have hbl : 6 * bdN k ≤ 1000000000000 := bdN_le (k := k + 1) (by omega)
        refine wpSkip ?_
        refine hF21 _ _ ?_; clear hF21
        refine wpSeq fun F22 hF22 => ?_
        refine wpBlock ?_
        refine wpSeq fun F23 hF23 => ?_
        refine wpRegion ?_
        refine seqQ rfl rfl (yMove (v := .int _ _) rfl rfl) ?_
        refine seqQ rfl rfl (yAssign (v := .int _ _) rfl rfl) ?_
        refine seqNil ?_
        refine hF23 _ _ ?_; clear hF23
        refine wpSeq fun F24 hF24 => ?_
        refine wpSeq fun F25 hF25 => ?_
        refine wpRegion ?_
        refine seqQ rfl rfl (yMove (v := .int _ _) rfl rfl) ?_
        refine seqQ rfl rfl (yMove (v := .int _ _) rfl rfl) ?_
        refine seqNil ?_
        refine hF25 _ _ ?_; clear hF25
        -- loop
        refine wpBlock ?_
        refine wpLoopS [9, 10, 61, 62, 63, 64, 65, 66, 67, 68, 69, 70, 71, 72, 73, 74, 75, 76, 77, 78, 79, 80, 81, 82, 83, 84, 85, 86, 87, 88, 89, 90, 91, 92, 93, 94, 95, 96, 97, 98, 99, 100, 101, 102, 103, 104, 105, 106] (fun i : Nat => [(61, .int .i64 i)]) (fun i H' => i ≤ dm z ∧ ZSt H g2 g5 27 z.N p z.b.length ca' (sI (dm z) (rx id (dm z) k) i (fw id (dm z) k (m0L (dm z) z.b))) H') (fun i => dm z - i) 0 ⟨rfl, trivial⟩ ⟨Nat.zero_le _, st3⟩ ?_
        rintro i J3 Hi2 ⟨hi, st4⟩
        clear st3
        refine wpSeq fun F26 hF26 => ?_
        refine wpRegion ?_
        refine seqQ rfl rfl (yLss rfl rfl rfl) ?_
        refine seqNil ?_
        refine hF26 _ _ ?_; clear hF26
        refine wpSeq fun F27 hF27 => ?_
        -- if t62
        refine wpIf rfl (fun hlt3 => ?_) (fun hlt3 => ?_)
        · skip
          have hi : i < dm z := by omega
          refine wpSkip ?_
          refine hF27 _ _ ?_; clear hF27
          refine wpSeq fun F28 hF28 => ?_
          refine wpBlock ?_
          refine wpSeq fun F29 hF29 => ?_
          refine wpRegion ?_
          refine seqQ rfl rfl (yMove (v := .int _ _) rfl rfl) ?_
          refine seqQ rfl rfl (yAssign (v := .int _ _) rfl rfl) ?_
          refine seqNil ?_
          refine hF29 _ _ ?_; clear hF29
          refine wpSeq fun F30 hF30 => ?_
          refine wpRegion ?_
          refine seqQ rfl rfl (yMove (v := .int _ _) rfl rfl) ?_
          refine seqQ rfl rfl (yMove (v := .int _ _) rfl rfl) ?_
          refine seqNil ?_
          refine hF30 _ _ ?_; clear hF30
          -- loop
          refine wpBlock ?_
          refine wpLoopS [10, 65, 66, 67, 68, 69, 70, 71, 72, 73, 74, 75, 76, 77, 78, 79, 80, 81, 82, 83, 84, 85, 86, 87, 88, 89, 90, 91, 92, 93, 94, 95, 96, 97, 98, 99, 100, 101, 102, 103, 104, 105] (fun j : Nat => [(65, .int .i64 j)]) (fun j H' => j ≤ dm z ∧ ZSt H g2 g5 27 z.N p z.b.length ca' (sJ (dm z) (rx id (dm z) k) i j (sI (dm z) (rx id (dm z) k) i (fw id (dm z) k (m0L (dm z) z.b)))) H') (fun j => dm z - j) 0 ⟨rfl, trivial⟩ ⟨Nat.zero_le _, st4⟩ ?_
          rintro j K4 Hj2 ⟨hj, st5⟩
          clear st4
          refine wpSeq fun F31 hF31 => ?_
          refine wpRegion ?_
          refine seqQ rfl rfl (yLss rfl rfl rfl) ?_
          refine seqNil ?_
          refine hF31 _ _ ?_; clear hF31
          refine wpSeq fun F32 hF32 => ?_
          -- if t66
          refine wpIf rfl (fun hlt4 => ?_) (fun hlt4 => ?_)
          · skip
            have hj : j < dm z := by omega
            have hbm := rx_mid hbp hk hlk hbk hi (Nat.le_of_lt hj)
            have hl5 : (sJ (dm z) (rx id (dm z) k) i j (sI (dm z) (rx id (dm z) k) i (fw id (dm z) k (m0L (dm z) z.b)))).length = dm z * dm z := by rw [sJ_len, sI_len, hlk]
            have hij := idx_lt hi hj
            have hik := idx_lt hi hk
            have hkj := idx_lt hk hj
            have a1 := st5.at_ hl5 hi hj
            have a2 := st5.at_ hl5 hi hk
            have a3 := st5.at_ hl5 hk hj
            refine wpSkip ?_
            refine hF32 _ _ ?_; clear hF32
            refine wpSeq fun F33 hF33 => ?_
            refine wpBlock ?_
            refine wpSeq fun F34 hF34 => ?_
            refine wpRegion ?_
            refine seqQ rfl rfl (yMove (v := .int _ _) rfl rfl) ?_
            refine seqQ rfl rfl (yAssign (v := .int _ _) rfl rfl) ?_
            refine seqNil ?_
            refine hF34 _ _ ?_; clear hF34
            refine wpRegionD Try_mixed [.q, .q, .q, .q, .q, .q, .q, .q, .q, .q, .q, .q, .q, .q, .q, .q, .q, .q, .q, .q, .q, .q, .q, .q, .q, .q, .q, .q, .q, .q, .q, .q, .q, .q, .q, .q, .q, .e] 36 [0, 1, 0, 0, 12, 0, 60, 0, 128, 0, 0, 1536, 0, 7680, 16256, 32640, 0, 65536, 0, 0, 786432, 0, 3932160, 8323072, 16711680, 0, 33554432, 0, 0, 402653184, 0, 2013265920, 4261412864, 8556380160, 17179803648, 34359738240, 68719476735, 137438953471] [] (by kernel_rfl) _ rfl [0, 1, 2, 3, 4, 5, 6, 7, 8, 9, 10, 11, 12, 13, 14, 15, 16, 17, 18, 19, 20, 21, 22, 23, 24, 25, 26, 27, 28, 29, 30, 31, 32, 33, 34, 35] rfl (by simp) ?_
            refine lexQ rfl rfl rfl rfl (fun H hM => (yFieldAddr rfl Try.underlying27 rfl Try.sizeOf22 rfl rfl)) ?_
            refine lexQ rfl rfl rfl rfl (fun H hM => (yLoad rfl Try.underlying22 rfl rfl (hM.ext.cell (st5.b5.cell rfl)))) ?_
            refine lexQ rfl rfl rfl rfl (fun H hM => (yMove (v := .int _ _) rfl rfl)) ?_
            refine lexQ rfl rfl rfl rfl (fun H hM => (yMove (v := .int _ _) rfl rfl)) ?_
            refine lexQ rfl rfl rfl rfl (fun H hM => (yMul rfl rfl rfl (mul_in (by omega) d3))) ?_
            refine lexQ rfl rfl rfl rfl (fun H hM => (yMove (v := .int _ _) rfl rfl)) ?_
            refine lexQ rfl rfl rfl rfl (fun H hM => (yAdd rfl rfl rfl (add_in (by omega) d3 (by omega)))) ?_
            refine lexQ rfl rfl rfl rfl (fun H hM => (yFieldAddr rfl Try.underlying27 rfl Try.sizeOf22 rfl rfl)) ?_
            refine lexQ rfl rfl rfl rfl (fun H hM => (yLoad rfl Try.underlying22 rfl rfl (hM.ext.cell (st5.b5.cell rfl)))) ?_
            refine lexQ rfl rfl rfl rfl (fun H hM => (yMove (v := .int _ _) rfl rfl)) ?_
            refine lexQ rfl rfl rfl rfl (fun H hM => (yMove (v := .int _ _) rfl rfl)) ?_
            refine lexQ rfl rfl rfl rfl (fun H hM => (yMul rfl rfl rfl (mul_in (by omega) d3))) ?_
            refine lexQ rfl rfl rfl rfl (fun H hM => (yMove (v := .int _ _) rfl rfl)) ?_
            refine lexQ rfl rfl rfl rfl (fun H hM => (yAdd rfl rfl rfl (add_in (by omega) d3 (by omega)))) ?_
            refine lexQ rfl rfl rfl rfl (fun H hM => (yIdx1 rfl Try.underlying22 Try.sizeOf3 rfl rfl idx_e (by rw [d4]; exact hij))) ?_
            refine lexQ rfl rfl rfl rfl (fun H hM => (yLoad rfl Try.underlying3 rfl rfl (hM.ext.cell a1))) ?_
            refine lexQ rfl rfl rfl rfl (fun H hM => (yFieldAddr rfl Try.underlying27 rfl Try.sizeOf22 rfl rfl)) ?_
            refine lexQ rfl rfl rfl rfl (fun H hM => (yLoad rfl Try.underlying22 rfl rfl (hM.ext.cell (st5.b5.cell rfl)))) ?_
            refine lexQ rfl rfl rfl rfl (fun H hM => (yMove (v := .int _ _) rfl rfl)) ?_
            refine lexQ rfl rfl rfl rfl (fun H hM => (yMove (v := .int _ _) rfl rfl)) ?_
            refine lexQ rfl rfl rfl rfl (fun H hM => (yMul rfl rfl rfl (mul_in (by omega) d3))) ?_
            refine lexQ rfl rfl rfl rfl (fun H hM => (yMove (v := .int _ _) rfl rfl)) ?_
            refine lexQ rfl rfl rfl rfl (fun H hM => (yAdd rfl rfl rfl (add_in (by omega) d3 (by omega)))) ?_
            refine lexQ rfl rfl rfl rfl (fun H hM => (yIdx1 rfl Try.underlying22 Try.sizeOf3 rfl rfl idx_e (by rw [d4]; exact hik))) ?_
            refine lexQ rfl rfl rfl rfl (fun H hM => (yLoad rfl Try.underlying3 rfl rfl (hM.ext.cell a2))) ?_
            refine lexQ rfl rfl rfl rfl (fun H hM => (yFieldAddr rfl Try.underlying27 rfl Try.sizeOf22 rfl rfl)) ?_
            refine lexQ rfl rfl rfl rfl (fun H hM => (yLoad rfl Try.underlying22 rfl rfl (hM.ext.cell (st5.b5.cell rfl)))) ?_
            refine lexQ rfl rfl rfl rfl (fun H hM => (yMove (v := .int _ _) rfl rfl)) ?_
            refine lexQ rfl rfl rfl rfl (fun H hM => (yMove (v := .int _ _) rfl rfl)) ?_
            refine lexQ rfl rfl rfl rfl (fun H hM => (yMul rfl rfl rfl (mul_in (by omega) d3))) ?_
            refine lexQ rfl rfl rfl rfl (fun H hM => (yMove (v := .int _ _) rfl rfl)) ?_
            refine lexQ rfl rfl rfl rfl (fun H hM => (yAdd rfl rfl rfl (add_in (by omega) d3 (by omega)))) ?_
            refine lexQ rfl rfl rfl rfl (fun H hM => (yIdx1 rfl Try.underlying22 Try.sizeOf3 rfl rfl idx_e (by rw [d4]; exact hkj))) ?_
            refine lexQ rfl rfl rfl rfl (fun H hM => (yLoad rfl Try.underlying3 rfl rfl (hM.ext.cell a3))) ?_
            refine lexQ rfl rfl rfl rfl (fun H hM => (yAdd rfl rfl rfl (hbm.sum hbl hi hj hk))) ?_
            refine lexQ rfl rfl rfl rfl (fun H hM => (yMin rfl rfl rfl)) ?_
            -- tail
            refine lexNil0 rfl (fun hM => ?_)
            refine seqQ rfl rfl (yIdx1 rfl Try.underlying22 Try.sizeOf3 rfl rfl idx_e (by rw [d4]; exact hij)) ?_
            -- e slot None: store T3 t104 t103
            refine seqE0 rfl rfl (stepStoreOwn st5.own rfl Try.sizeOf3 rfl rfl rfl rfl (by rw [hl5]; exact hij) ?_)
            intro H5 hown5 hK5
            refine seqNil ?_
            refine hF33 _ _ ?_; clear hF33
            refine wpRegion ?_
            refine seqQ rfl rfl (yAdd rfl rfl rfl (by unfold In64; omega)) ?_
            refine seqQ rfl rfl (yMove (v := .int _ _) rfl rfl) ?_
            refine seqNil ?_
            -- end loop
            exact loopEnd (j + 1) (by repeat (first | (with_reducible exact Agree.refl _ _) | refine Agree.upd ?_ rfl | refine Agree.over ?_ rfl)) (by omega) ⟨rfl, trivial⟩ ⟨hj, st5.store hown5 hK5⟩
          · skip
            obtain rfl : j = dm z := by omega
            refine wpExit ?_
            refine hF28 _ _ ?_; clear hF28
            refine wpRegion ?_
            refine seqQ rfl rfl (yAdd rfl rfl rfl (by unfold In64; omega)) ?_
            refine seqQ rfl rfl (yMove (v := .int _ _) rfl rfl) ?_
            refine seqNil ?_
            -- end loop
            exact loopEnd (i + 1) (by repeat (first | (with_reducible exact Agree.refl _ _) | refine Agree.upd ?_ rfl | refine Agree.over ?_ rfl)) (by omega) ⟨rfl, trivial⟩ ⟨hi, st5⟩
        · skip
          have ei : i = dm z := by omega
          rw [ei] at st4
          clear ei hlt3 hi
          have st6 : ZSt H g2 g5 27 z.N p z.b.length ca' (fw id (dm z) (k + 1) (m0L (dm z) z.b)) Hi2 := st4
          have hl6 : (fw id (dm z) (k + 1) (m0L (dm z) z.b)).length = dm z * dm z := by rw [fw_len, hl0]
          clear st4
          refine wpExit ?_
          refine hF24 _ _ ?_; clear hF24
          refine wpSeq fun F35 hF35 => ?_
          refine wpRegion ?_
          refine seqQ rfl rfl (yMove (v := .int _ _) rfl rfl) ?_
          refine seqQ rfl rfl (yMove (v := .int _ _) rfl rfl) ?_
          refine seqNil ?_
          refine hF35 _ _ ?_; clear hF35
          -- loop
          refine wpBlock ?_
          refine wpLoopS [3, 11, 108, 109, 110, 111, 112, 113, 114, 115, 116, 117, 118, 119, 120, 121, 122] (fun a : Nat => [(108, .int .i64 a)]) (fun a H' => a ≤ dm z ∧ H' = Hi2 ∧ ∀ b, b < a → 0 ≤ mt (dm z) (fw id (dm z) (k + 1) (m0L (dm z) z.b)) b b) (fun a => dm z - a) 0 ⟨rfl, trivial⟩ ⟨Nat.zero_le _, rfl, fun b h => absurd h (by omega)⟩ ?_
          rintro a J5 _ ⟨ha, e, hdg2⟩
          obtain rfl := e.symm
          clear e
          refine wpSeq fun F36 hF36 => ?_
          refine wpRegion ?_
          refine seqQ rfl rfl (yLss rfl rfl rfl) ?_
          refine seqNil ?_
          refine hF36 _ _ ?_; clear hF36
          refine wpSeq fun F37 hF37 => ?_
          -- if t109
          refine wpIf rfl (fun hlt5 => ?_) (fun hlt5 => ?_)
          · skip
            have ha : a < dm z := by omega
            have haa := idx_lt ha ha
            have a1 := st6.at_ hl6 ha ha
            refine wpSkip ?_
            refine hF37 _ _ ?_; clear hF37
            refine wpSeq fun F38 hF38 => ?_
            refine wpBlock ?_
            refine wpSeq fun F39 hF39 => ?_
            refine wpRegion ?_
            refine seqQ rfl rfl (yMove (v := .int _ _) rfl rfl) ?_
            refine seqQ rfl rfl (yAssign (v := .int _ _) rfl rfl) ?_
            refine seqNil ?_
            refine hF39 _ _ ?_; clear hF39
            refine wpSeq fun F40 hF40 => ?_
            refine wpRegion ?_
            refine seqQ rfl rfl (yFieldAddr rfl Try.underlying27 rfl Try.sizeOf22 rfl rfl) ?_
            refine seqQ rfl rfl (yLoad rfl Try.underlying22 rfl rfl (st6.b5.cell rfl)) ?_
            refine seqQ rfl rfl (yMove (v := .int _ _) rfl rfl) ?_
            refine seqQ rfl rfl (yMove (v := .int _ _) rfl rfl) ?_
            refine seqQ rfl rfl (yMul rfl rfl rfl (mul_in (by omega) d3)) ?_
            refine seqQ rfl rfl (yMove (v := .int _ _) rfl rfl) ?_
            refine seqQ rfl rfl (yAdd rfl rfl rfl (add_in (by omega) d3 (by omega))) ?_
            refine seqQ rfl rfl (yIdx1 rfl Try.underlying22 Try.sizeOf3 rfl rfl idx_e (by rw [d4]; exact haa)) ?_
            refine seqQ rfl rfl (yLoad rfl Try.underlying3 rfl rfl a1) ?_
            refine seqQ rfl rfl (yLss rfl rfl rfl) ?_
            refine seqNil ?_
            refine hF40 _ _ ?_; clear hF40
            -- if t120
            refine wpIf rfl (fun hneg => ?_) (fun hneg => ?_)
            · skip
              refine wpSeq fun F41 hF41 => ?_
              refine wpRegion ?_
              refine seqQ rfl rfl (yBuild (pl := [(0, 1), (1, 1)]) (vs := []) rfl Try.underlying27 Try.zeroValue27 rfl (by unfold Places; kernel_rfl) rfl rfl) ?_
              -- e slot None: store T27 t2 t121
              refine seqE0 rfl rfl (stepStoreB rfl (by kernel_rfl) rfl rfl rfl st6.b2 rfl ?_)
              intro H7 hB7 hK7
              refine seqQ rfl rfl (yAssign (v := .bool _) rfl rfl) ?_
              refine seqNil ?_
              refine hF41 _ _ ?_; clear hF41
              -- ret
              refine wpRet (finR2 rfl (resC Try.underlying27 rfl (by kernel_rfl) rfl hB7) (resT (v := .bool _) rfl) ?_)
              have hd := st6.done hK7
              rw [closeZ_f (fun h => by
                have h1 := h a ha
                have h2 := fw_le (c := id) hl0 ha ha (show k + 1 ≤ dm z from hk)
                unfold closeL at h1
                omega)]
              exact ⟨hd.1, _, rfl, ZO.zero _ _⟩
            · skip
              refine wpSkip ?_
              refine hF38 _ _ ?_; clear hF38
              refine wpRegion ?_
              refine seqQ rfl rfl (yAdd rfl rfl rfl (by unfold In64; omega)) ?_
              refine seqQ rfl rfl (yMove (v := .int _ _) rfl rfl) ?_
              refine seqNil ?_
              -- end loop
              exact loopEnd (a + 1) (by repeat (first | (with_reducible exact Agree.refl _ _) | refine Agree.upd ?_ rfl | refine Agree.over ?_ rfl)) (by omega) ⟨rfl, trivial⟩ ⟨ha, rfl, fun b hb => by
                rcases Nat.lt_or_ge b a with h | h
                · exact hdg2 b h
                · obtain rfl : b = a := by omega
                  omega⟩
          · skip
            obtain rfl : a = dm z := by omega
            refine wpExit ?_
            refine hF22 _ _ ?_; clear hF22
            refine wpRegion ?_
            refine seqQ rfl rfl (yAdd rfl rfl rfl (by unfold In64; omega)) ?_
            refine seqQ rfl rfl (yMove (v := .int _ _) rfl rfl) ?_
            refine seqNil ?_
            -- end loop
            exact loopEnd (k + 1) (by repeat (first | (with_reducible exact Agree.refl _ _) | refine Agree.upd ?_ rfl | refine Agree.over ?_ rfl)) (by omega) ⟨rfl, trivial⟩ ⟨hk, st6, fun _ => hdg2⟩
      · skip
        have ek : k = dm z := by omega
        rw [ek] at st3 hdg
        refine wpExit ?_
        refine hF18 _ _ ?_; clear hF18
        refine wpSeq fun F42 hF42 => ?_
        refine wpRegion ?_
        refine seqQ rfl rfl (yLoadB st3.b5 rfl Try.underlying27 rfl Try.sizeOf27 rfl) ?_
        -- e slot None: store T27 t2 t124
        refine seqE0 rfl rfl (stepStoreB rfl (by kernel_rfl) rfl rfl rfl st3.b2 rfl ?_)
        intro H7 hB7 hK7
        refine seqQ rfl rfl (yAssign (v := .bool _) rfl rfl) ?_
        refine seqNil ?_
        refine hF42 _ _ ?_; clear hF42
        -- ret
        refine wpRet (finR2 rfl (resC Try.underlying27 rfl (by kernel_rfl) rfl hB7) (resT (v := .bool _) rfl) ?_)
        have hd := st3.done hK7
        rw [closeZ_t hv (hdg (by omega))]
        exact ⟨hd.1, _, rfl, ZO.of (N := z.N) hd.2⟩
set_option maxRecDepth 100000 in
theorem rClose_c (z : Zn) (A : Option Addr) (ca : Nat) (H : Heap) (hA : Rd eInt H A z.b) (h8 : z.N ≤ 8) :
    CallsH Try.prog 16 [.agg (znC z A ca).toArray] H fun v H' => Ext H H' ∧ ∃ u, v = .tuple #[u, .bool (closeZ z).2] ∧ ZO H' H.size u (closeZ z).1 := by
  refine callsH_of Try.func16 rfl Try.ntmps16 (Nat.le_of_ble_eq_true rfl) ?_
  refine wpSeq fun F1 hF1 => ?_
  refine wpRegion ?_
  refine seqN rfl rfl (nBoxA rfl rfl) (fun g1 H1 hx1 hB1 hg1 hl1 => ?_)
  refine seqN rfl rfl (nAlloc rfl Try.zeroValue24 rfl) (fun g2 H2 hx2 hB2 hg2 hl2 => ?_)
  refine seqQ rfl rfl (yAssign (v := .bool _) rfl rfl) ?_
  refine seqNil ?_
  refine hF1 _ _ ?_; clear hF1
  refine wpSeq fun F2 hF2 => ?_
  refine wpSeq fun F3 hF3 => ?_
  refine wpRegion ?_
  refine seqQ rfl rfl (yLoadB (hB1.ext hx2) rfl Try.underlying24 rfl Try.sizeOf24 rfl) ?_
  -- e slot 13: call F28<farandole/farandoleref13.Valid> t12
  refine seqE rfl rfl (stepCall rfl Try.call28 rfl ?_)
  refine (rvalid_c z A ca _ ((hA.ext hx1).ext hx2)).mono ?_
  rintro v H3 ⟨rfl, hx3⟩
  have hE := (hx1.trans hx2).trans hx3
  have s1 := hx1.size
  replace hB1 := (hB1.ext hx2).ext hx3
  replace hB2 := hB2.ext hx3
  clear hx1 hx2 hx3
  refine seqQ rfl rfl (yNot rfl rfl) ?_
  refine seqNil ?_
  refine hF3 _ _ ?_; clear hF3
  -- if t14
  refine wpCond rfl (fun hv => ?_) (fun hv => ?_)
  · skip
    have hv : ¬ ValZ z := by simpa using hv
    refine wpSeq fun F4 hF4 => ?_
    refine wpRegion ?_
    refine seqQ rfl rfl (yBuild (pl := [(0, 1), (1, 1)]) (vs := []) rfl Try.underlying24 Try.zeroValue24 rfl (by unfold Places; kernel_rfl) rfl rfl) ?_
    -- e slot None: store T24 t2 t15
    refine seqE0 rfl rfl (stepStoreB rfl (by kernel_rfl) rfl rfl rfl hB2 rfl ?_)
    intro H6 hB6 hK6
    refine seqQ rfl rfl (yAssign (v := .bool _) rfl rfl) ?_
    refine seqNil ?_
    refine hF4 _ _ ?_; clear hF4
    -- ret
    refine wpRet (finR2 rfl (resC Try.underlying24 rfl (by kernel_rfl) rfl hB6) (resT (v := .bool _) rfl) ?_)
    rw [closeZ_bad hv]
    exact ⟨hE.mine hK6 (by simp; omega), _, rfl, ZO.zero _ _⟩
  · skip
    have hv : ValZ z := by simpa using hv
    obtain ⟨d1, d2, d3, d4⟩ := hv.dim
    have hpos : 0 < z.b.length := by rw [d4]; exact Nat.mul_pos d2 d2
    refine wpSkip ?_
    refine hF2 _ _ ?_; clear hF2
    refine wpSeq fun F5 hF5 => ?_
    refine wpRegion ?_
    refine seqQ rfl rfl (yFieldAddr rfl Try.underlying24 rfl Try.sizeOf3 rfl rfl) ?_
    refine seqQ rfl rfl (yLoad rfl Try.underlying3 rfl rfl (hB1.cell rfl)) ?_
    refine seqQ rfl rfl (yAddE rfl rfl rfl (by unfold In64; omega) hv.succ) ?_
    refine seqQ rfl rfl (yAssign (v := .int _ _) rfl rfl) ?_
    refine seqNil ?_
    refine hF5 _ _ ?_; clear hF5
    refine wpSeq fun F6 hF6 => ?_
    refine wpRegionD Try_mixed [.q, .q, .n, .q, .q, .e, .q, .n, .e] 8 [0, 1, 0, 0, 8, 28, 63, 0, 255] [] (by kernel_rfl) _ rfl [0, 1, 2, 3, 4, 5, 6, 7] rfl (by simp) ?_
    refine lexQ rfl rfl rfl rfl (fun H hM => (yFieldAddr rfl Try.underlying24 rfl Try.sizeOf3 rfl rfl)) ?_
    refine lexQ rfl rfl rfl rfl (fun H hM => (yLoad rfl Try.underlying3 rfl rfl (hM.ext.cell (hB1.cell rfl)))) ?_
    refine lexNB rfl rfl rfl rfl (nBuildSlice (vs := []) rfl Try.underlying22 Try.sizeOf3 Try.zeroValue3 rfl rfl rfl rfl) (fun g21 hg21 hne21 => ?_)
    refine lexQ rfl rfl rfl rfl (fun H hM => (yFieldAddr rfl Try.underlying24 rfl Try.sizeOf22 rfl rfl)) ?_
    refine lexQ rfl rfl rfl rfl (fun H hM => (yLoad rfl Try.underlying22 rfl rfl (hM.ext.cell (hB1.cell rfl)))) ?_
    -- e slot 24: builtin append t21 t23 : [22, 22]
    have hn21 : ∀ z ∈ ([] : List NF), z.g ≠ g21 := by simp
    refine lexEG rfl rfl rfl rfl (by first | assumption | omega) (by first | (dsimp only; rfl) | kernel_rfl) hn21 (fun Hs hXs hMs hBs hFs => stepApp (c := eInt) (Own.lit (c := eInt) (l := []) (base := H3.size) hBs hg21 (by simp)) rfl Try.underlying22 elem_eInt rfl (by omega) rfl rfl rfl ((hA.ext hE).ext hMs.ext) (by have := mul25 d3 d3; simp; omega) (hMs.ext.size) ?_)
    intro v H8 hown hgrew
    rw [List.nil_append] at hown
    obtain ⟨A', ca', rfl, -, hrd, hb⟩ := hown.form
    obtain ⟨p, rfl, hp⟩ := hrd.at1 hpos
    obtain ⟨hb1, hb2, hb3⟩ := hb p rfl
    have hx8 : Ext H3 H8 := hgrew.ext hMs.ext (by rintro g e; obtain rfl := Option.some.inj e; exact hg21)
    refine lexApp rfl hgrew (by simp) (by intro g e; exact (hown.lt g e).2) ?_
    refine lexQ rfl rfl rfl rfl (fun H hM => (yBuild (pl := [(0, 1), (1, 1)]) (vs := [(0, .int _ _), (1, .slice _ _ _)]) rfl Try.underlying24 Try.zeroValue24 rfl (by unfold Places; kernel_rfl) rfl rfl)) ?_
    refine lexNB rfl rfl rfl rfl (nAlloc rfl Try.zeroValue24 rfl) (fun g5 hg5 hne5 => ?_)
    -- tail
    refine lexNilM (fun Hf hXf hMf hNf hFf => ?_)
    have hB5 := NF.blk 7 hNf (.head _)
    have n5 : g5 ≠ p.block := fun e => hFf _ (.head _) (List.mem_append.2 (.inl (by rw [Option.mem_toList]; exact congrArg some e.symm)))
    -- e slot None: store T24 t5 t25
    refine seqE0 rfl rfl (stepStoreB rfl (by kernel_rfl) rfl rfl rfl hB5 rfl ?_)
    intro H9 hB9 hK9
    have hXX := hx8.trans hXf
    have sE := hE.size
    have l2 := hB2.lt
    have st : ZSt H g2 g5 24 z.N p z.b.length ca' z.b H9 :=
      ⟨(hE.trans hXX).mine hK9 (by simp; omega), ((hown.mono (by omega)).ext hXf).keep hK9 (by intro b e; obtain rfl := Option.some.inj e; simp; exact fun h => n5 h.symm), (hB2.ext hXX).keep hK9 (by simp; omega), hB9, by omega, n5, by omega, by omega⟩
    clear hXX hXf hx8 hB2 hB9 hK9 hB5 hown hrd hb hE hB1 l2 sE
    refine seqNil ?_
    refine hF6 _ _ ?_; clear hF6
    refine wpSeq fun F7 hF7 => ?_
    refine wpSeq fun F8 hF8 => ?_
    refine wpRegion ?_
    refine seqQ rfl rfl (yAssign (v := .int _ _) rfl rfl) ?_
    refine seqNil ?_
    refine hF8 _ _ ?_; clear hF8
    -- loop
    refine wpBlock ?_
    refine wpLoopS [6, 7, 26, 27, 28, 29, 30, 31, 32, 33, 34, 35, 36, 37, 38, 39, 40, 41, 42, 43, 44, 45, 46, 47, 48, 49, 50, 51, 52, 53, 54, 55, 56] (fun i : Nat => [(6, .int .i64 i)]) (fun i H' => i ≤ dm z ∧ ZSt H g2 g5 24 z.N p z.b.length ca' (sI (dm z) (fun i j K => min (mt (dm z) K i j) (ful i j)) i z.b) H') (fun i => dm z - i) 0 ⟨rfl, trivial⟩ ⟨Nat.zero_le _, st⟩ ?_
    rintro i J Hi ⟨hi, st1⟩
    clear st
    refine wpSeq fun F9 hF9 => ?_
    refine wpSeq fun F10 hF10 => ?_
    refine wpRegion ?_
    refine seqQ rfl rfl (yMove (v := .int _ _) rfl rfl) ?_
    refine seqQ rfl rfl (yMove (v := .int _ _) rfl rfl) ?_
    refine seqQ rfl rfl (yLss rfl rfl rfl) ?_
    refine seqNil ?_
    refine hF10 _ _ ?_; clear hF10
    -- if t28
    refine wpIf rfl (fun hlt => ?_) (fun hlt => ?_)
    · skip
      have hi : i < dm z := by omega
      refine wpSkip ?_
      refine hF9 _ _ ?_; clear hF9
      refine wpSeq fun F11 hF11 => ?_
      refine wpBlock ?_
      refine wpSeq fun F12 hF12 => ?_
      refine wpRegion ?_
      refine seqQ rfl rfl (yAssign (v := .int _ _) rfl rfl) ?_
      refine seqNil ?_
      refine hF12 _ _ ?_; clear hF12
      -- loop
      refine wpBlock ?_
      refine wpLoopS [7, 31, 32, 33, 34, 35, 36, 37, 38, 39, 40, 41, 42, 43, 44, 45, 46, 47, 48, 49, 50, 51, 52, 53, 54, 55, 56] (fun j : Nat => [(7, .int .i64 j)]) (fun j H' => j ≤ dm z ∧ ZSt H g2 g5 24 z.N p z.b.length ca' (sJ (dm z) (fun i j K => min (mt (dm z) K i j) (ful i j)) i j (sI (dm z) (fun i j K => min (mt (dm z) K i j) (ful i j)) i z.b)) H') (fun j => dm z - j) 0 ⟨rfl, trivial⟩ ⟨Nat.zero_le _, st1⟩ ?_
      rintro j K Hj ⟨hj, st2⟩
      clear st1
      refine wpSeq fun F13 hF13 => ?_
      refine wpSeq fun F14 hF14 => ?_
      refine wpRegion ?_
      refine seqQ rfl rfl (yMove (v := .int _ _) rfl rfl) ?_
      refine seqQ rfl rfl (yMove (v := .int _ _) rfl rfl) ?_
      refine seqQ rfl rfl (yLss rfl rfl rfl) ?_
      refine seqNil ?_
      refine hF14 _ _ ?_; clear hF14
      -- if t33
      refine wpIf rfl (fun hlt2 => ?_) (fun hlt2 => ?_)
      · skip
        have hj : j < dm z := by omega
        have hl2 : (sJ (dm z) (fun i j K => min (mt (dm z) K i j) (ful i j)) i j (sI (dm z) (fun i j K => min (mt (dm z) K i j) (ful i j)) i z.b)).length = dm z * dm z := by rw [sJ_len, sI_len, d4]
        have hix := idx_lt hi hj
        have hat := st2.at_ hl2 hi hj
        refine wpSkip ?_
        refine hF13 _ _ ?_; clear hF13
        refine wpSeq fun F15 hF15 => ?_
        refine wpBlock ?_
        refine wpRegionD Try_mixed [.q, .q, .q, .q, .q, .q, .q, .q, .q, .q, .q, .q, .q, .q, .q, .q, .q, .q, .e, .q, .q, .e] 20 [0, 1, 0, 0, 12, 0, 60, 0, 128, 0, 0, 1536, 0, 7680, 16256, 32640, 0, 0, 196608, 524160, 1048575, 2097151] [] (by kernel_rfl) _ rfl [0, 1, 2, 3, 4, 5, 6, 7, 8, 9, 10, 11, 12, 13, 14, 15, 16, 17, 18, 19] rfl (by simp) ?_
        refine lexQ rfl rfl rfl rfl (fun H hM => (yFieldAddr rfl Try.underlying24 rfl Try.sizeOf22 rfl rfl)) ?_
        refine lexQ rfl rfl rfl rfl (fun H hM => (yLoad rfl Try.underlying22 rfl rfl (hM.ext.cell (st2.b5.cell rfl)))) ?_
        refine lexQ rfl rfl rfl rfl (fun H hM => (yMove (v := .int _ _) rfl rfl)) ?_
        refine lexQ rfl rfl rfl rfl (fun H hM => (yMove (v := .int _ _) rfl rfl)) ?_
        refine lexQ rfl rfl rfl rfl (fun H hM => (yMul rfl rfl rfl (mul_in (by omega) d3))) ?_
        refine lexQ rfl rfl rfl rfl (fun H hM => (yMove (v := .int _ _) rfl rfl)) ?_
        refine lexQ rfl rfl rfl rfl (fun H hM => (yAdd rfl rfl rfl (add_in (by omega) d3 (by omega)))) ?_
        refine lexQ rfl rfl rfl rfl (fun H hM => (yFieldAddr rfl Try.underlying24 rfl Try.sizeOf22 rfl rfl)) ?_
        refine lexQ rfl rfl rfl rfl (fun H hM => (yLoad rfl Try.underlying22 rfl rfl (hM.ext.cell (st2.b5.cell rfl)))) ?_
        refine lexQ rfl rfl rfl rfl (fun H hM => (yMove (v := .int _ _) rfl rfl)) ?_
        refine lexQ rfl rfl rfl rfl (fun H hM => (yMove (v := .int _ _) rfl rfl)) ?_
        refine lexQ rfl rfl rfl rfl (fun H hM => (yMul rfl rfl rfl (mul_in (by omega) d3))) ?_
        refine lexQ rfl rfl rfl rfl (fun H hM => (yMove (v := .int _ _) rfl rfl)) ?_
        refine lexQ rfl rfl rfl rfl (fun H hM => (yAdd rfl rfl rfl (add_in (by omega) d3 (by omega)))) ?_
        refine lexQ rfl rfl rfl rfl (fun H hM => (yIdx1 rfl Try.underlying22 Try.sizeOf3 rfl rfl idx_e (by rw [d4]; exact hix))) ?_
        refine lexQ rfl rfl rfl rfl (fun H hM => (yLoad rfl Try.underlying3 rfl rfl (hM.ext.cell hat))) ?_
        refine lexQ rfl rfl rfl rfl (fun H hM => (yMove (v := .int _ _) rfl rfl)) ?_
        refine lexQ rfl rfl rfl rfl (fun H hM => (yMove (v := .int _ _) rfl rfl)) ?_
        -- e slot 54: call F43<farandole/farandoleref13.full> t52 t53
        refine lexX0 rfl rfl rfl rfl rfl (by simp) (fun hM54 => stepCall rfl Try.call43 rfl ?_)
        refine (rfull_c i j _).mono ?_
        rintro v _ ⟨rfl, e⟩
        obtain rfl := e.symm
        clear e
        refine ⟨Ext.refl _, fun _ => ?_⟩
        refine lexQ rfl rfl rfl rfl (fun H hM => (yMin rfl rfl rfl)) ?_
        -- tail
        refine lexNil0 rfl (fun hM => ?_)
        refine seqQ rfl rfl (yIdx1 rfl Try.underlying22 Try.sizeOf3 rfl rfl idx_e (by rw [d4]; exact hix)) ?_
        -- e slot None: store T3 t56 t55
        refine seqE0 rfl rfl (stepStoreOwn st2.own rfl Try.sizeOf3 rfl rfl rfl rfl (by rw [hl2]; exact hix) ?_)
        intro H5 hown5 hK5
        refine seqNil ?_
        refine hF15 _ _ ?_; clear hF15
        refine wpRegion ?_
        refine seqQ rfl rfl (yMove (v := .int _ _) rfl rfl) ?_
        refine seqQ rfl rfl (yAdd rfl rfl rfl (by unfold In64; omega)) ?_
        refine seqQ rfl rfl (yAssign (v := .int _ _) rfl rfl) ?_
        refine seqNil ?_
        -- end loop
        exact loopEnd (j + 1) (by repeat (first | (with_reducible exact Agree.refl _ _) | refine Agree.upd ?_ rfl | refine Agree.over ?_ rfl)) (by omega) ⟨rfl, trivial⟩ ⟨hj, st2.store hown5 hK5⟩
      · skip
        obtain rfl : j = dm z := by omega
        refine wpExit ?_
        refine hF11 _ _ ?_; clear hF11
        refine wpRegion ?_
        refine seqQ rfl rfl (yMove (v := .int _ _) rfl rfl) ?_
        refine seqQ rfl rfl (yAdd rfl rfl rfl (by unfold In64; omega)) ?_
        refine seqQ rfl rfl (yAssign (v := .int _ _) rfl rfl) ?_
        refine seqNil ?_
        -- end loop
        exact loopEnd (i + 1) (by repeat (first | (with_reducible exact Agree.refl _ _) | refine Agree.upd ?_ rfl | refine Agree.over ?_ rfl)) (by omega) ⟨rfl, trivial⟩ ⟨hi, st2⟩
    · skip
      have ei : i = dm z := by omega
      rw [ei] at st1
      clear ei hlt hi
      have hl0 : (m0L (dm z) z.b).length = dm z * dm z := by rw [m0L_len, d4]
      have hb0 := m0L_bd hv
      refine wpExit ?_
      refine hF7 _ _ ?_; clear hF7
      refine wpSeq fun F16 hF16 => ?_
      refine wpSeq fun F17 hF17 => ?_
      refine wpRegion ?_
      refine seqQ rfl rfl (yAssign (v := .int _ _) rfl rfl) ?_
      refine seqNil ?_
      refine hF17 _ _ ?_; clear hF17
      -- loop
      refine wpBlock ?_
      refine wpLoopS [8, 9, 10, 57, 58, 59, 60, 61, 62, 63, 64, 65, 66, 67, 68, 69, 70, 71, 72, 73, 74, 75, 76, 77, 78, 79, 80, 81, 82, 83, 84, 85, 86, 87, 88, 89, 90, 91, 92, 93, 94, 95, 96, 97, 98, 99, 100, 101, 102, 103, 104, 105, 106, 107, 108, 109] (fun k : Nat => [(8, .int .i64 k)]) (fun k H' => k ≤ dm z ∧ ZSt H g2 g5 24 z.N p z.b.length ca' (fw (max (-20001)) (dm z) k (m0L (dm z) z.b)) H') (fun k => dm z - k) 0 ⟨rfl, trivial⟩ ⟨Nat.zero_le _, st1⟩ ?_
      rintro k J2 Hk ⟨hk, st3⟩
      clear st1
      refine wpSeq fun F18 hF18 => ?_
      refine wpSeq fun F19 hF19 => ?_
      refine wpRegion ?_
      refine seqQ rfl rfl (yMove (v := .int _ _) rfl rfl) ?_
      refine seqQ rfl rfl (yMove (v := .int _ _) rfl rfl) ?_
      refine seqQ rfl rfl (yLss rfl rfl rfl) ?_
      refine seqNil ?_
      refine hF19 _ _ ?_; clear hF19
      -- if t59
      refine wpIf rfl (fun hlt => ?_) (fun hlt => ?_)
      · skip
        have hk : k < dm z := by omega
        have hlk : (fw (max (-20001)) (dm z) k (m0L (dm z) z.b)).length = dm z * dm z := by rw [fw_len, hl0]
        have hbk := rfw_bd hl0 hb0 k (by omega)
        refine wpSkip ?_
        refine hF18 _ _ ?_; clear hF18
        refine wpSeq fun F20 hF20 => ?_
        refine wpBlock ?_
        refine wpSeq fun F21 hF21 => ?_
        refine wpRegion ?_
        refine seqQ rfl rfl (yAssign (v := .int _ _) rfl rfl) ?_
        refine seqNil ?_
        refine hF21 _ _ ?_; clear hF21
        -- loop
        refine wpBlock ?_
        refine wpLoopS [9, 10, 62, 63, 64, 65, 66, 67, 68, 69, 70, 71, 72, 73, 74, 75, 76, 77, 78, 79, 80, 81, 82, 83, 84, 85, 86, 87, 88, 89, 90, 91, 92, 93, 94, 95, 96, 97, 98, 99, 100, 101, 102, 103, 104, 105, 106, 107, 108, 109] (fun i : Nat => [(9, .int .i64 i)]) (fun i H' => i ≤ dm z ∧ ZSt H g2 g5 24 z.N p z.b.length ca' (sI (dm z) (rx (max (-20001)) (dm z) k) i (fw (max (-20001)) (dm z) k (m0L (dm z) z.b))) H') (fun i => dm z - i) 0 ⟨rfl, trivial⟩ ⟨Nat.zero_le _, st3⟩ ?_
        rintro i J3 Hi2 ⟨hi, st4⟩
        clear st3
        refine wpSeq fun F22 hF22 => ?_
        refine wpSeq fun F23 hF23 => ?_
        refine wpRegion ?_
        refine seqQ rfl rfl (yMove (v := .int _ _) rfl rfl) ?_
        refine seqQ rfl rfl (yMove (v := .int _ _) rfl rfl) ?_
        refine seqQ rfl rfl (yLss rfl rfl rfl) ?_
        refine seqNil ?_
        refine hF23 _ _ ?_; clear hF23
        -- if t64
        refine wpIf rfl (fun hlt3 => ?_) (fun hlt3 => ?_)
        · skip
          have hi : i < dm z := by omega
          refine wpSkip ?_
          refine hF22 _ _ ?_; clear hF22
          refine wpSeq fun F24 hF24 => ?_
          refine wpBlock ?_
          refine wpSeq fun F25 hF25 => ?_
          refine wpRegion ?_
          refine seqQ rfl rfl (yAssign (v := .int _ _) rfl rfl) ?_
          refine seqNil ?_
          refine hF25 _ _ ?_; clear hF25
          -- loop
          refine wpBlock ?_
          refine wpLoopS [10, 67, 68, 69, 70, 71, 72, 73, 74, 75, 76, 77, 78, 79, 80, 81, 82, 83, 84, 85, 86, 87, 88, 89, 90, 91, 92, 93, 94, 95, 96, 97, 98, 99, 100, 101, 102, 103, 104, 105, 106, 107, 108, 109] (fun j : Nat => [(10, .int .i64 j)]) (fun j H' => j ≤ dm z ∧ ZSt H g2 g5 24 z.N p z.b.length ca' (sJ (dm z) (rx (max (-20001)) (dm z) k) i j (sI (dm z) (rx (max (-20001)) (dm z) k) i (fw (max (-20001)) (dm z) k (m0L (dm z) z.b)))) H') (fun j => dm z - j) 0 ⟨rfl, trivial⟩ ⟨Nat.zero_le _, st4⟩ ?_
          rintro j K4 Hj2 ⟨hj, st5⟩
          clear st4
          refine wpSeq fun F26 hF26 => ?_
          refine wpSeq fun F27 hF27 => ?_
          refine wpRegion ?_
          refine seqQ rfl rfl (yMove (v := .int _ _) rfl rfl) ?_
          refine seqQ rfl rfl (yMove (v := .int _ _) rfl rfl) ?_
          refine seqQ rfl rfl (yLss rfl rfl rfl) ?_
          refine seqNil ?_
          refine hF27 _ _ ?_; clear hF27
          -- if t69
          refine wpIf rfl (fun hlt4 => ?_) (fun hlt4 => ?_)
          · skip
            have hj : j < dm z := by omega
            have hbm := (rc_bd hk hlk hbk).1 i hi j (Nat.le_of_lt hj)
            have hl5 : (sJ (dm z) (rx (max (-20001)) (dm z) k) i j (sI (dm z) (rx (max (-20001)) (dm z) k) i (fw (max (-20001)) (dm z) k (m0L (dm z) z.b)))).length = dm z * dm z := by rw [sJ_len, sI_len, hlk]
            have hij := idx_lt hi hj
            have hik := idx_lt hi hk
            have hkj := idx_lt hk hj
            have a1 := st5.at_ hl5 hi hj
            have a2 := st5.at_ hl5 hi hk
            have a3 := st5.at_ hl5 hk hj
            refine wpSkip ?_
            refine hF26 _ _ ?_; clear hF26
            refine wpSeq fun F28 hF28 => ?_
            refine wpBlock ?_
            refine wpRegionD Try_mixed [.q, .q, .q, .q, .q, .q, .q, .q, .q, .q, .q, .q, .q, .q, .q, .q, .q, .q, .q, .q, .q, .q, .q, .q, .q, .q, .q, .q, .q, .q, .q, .q, .q, .q, .q, .q, .q, .q, .e] 37 [0, 1, 0, 0, 12, 0, 60, 0, 128, 0, 0, 1536, 0, 7680, 16256, 32640, 0, 65536, 0, 0, 786432, 0, 3932160, 8323072, 16711680, 0, 33554432, 0, 0, 402653184, 0, 2013265920, 4261412864, 8556380160, 17179803648, 34359672832, 68719476608, 137438953471, 274877906943] [] (by kernel_rfl) _ rfl [0, 1, 2, 3, 4, 5, 6, 7, 8, 9, 10, 11, 12, 13, 14, 15, 16, 17, 18, 19, 20, 21, 22, 23, 24, 25, 26, 27, 28, 29, 30, 31, 32, 33, 34, 35, 36] rfl (by simp) ?_
            refine lexQ rfl rfl rfl rfl (fun H hM => (yFieldAddr rfl Try.underlying24 rfl Try.sizeOf22 rfl rfl)) ?_
            refine lexQ rfl rfl rfl rfl (fun H hM => (yLoad rfl Try.underlying22 rfl rfl (hM.ext.cell (st5.b5.cell rfl)))) ?_
            refine lexQ rfl rfl rfl rfl (fun H hM => (yMove (v := .int _ _) rfl rfl)) ?_
            refine lexQ rfl rfl rfl rfl (fun H hM => (yMove (v := .int _ _) rfl rfl)) ?_
            refine lexQ rfl rfl rfl rfl (fun H hM => (yMul rfl rfl rfl (mul_in (by omega) d3))) ?_
            refine lexQ rfl rfl rfl rfl (fun H hM => (yMove (v := .int _ _) rfl rfl)) ?_
            refine lexQ rfl rfl rfl rfl (fun H hM => (yAdd rfl rfl rfl (add_in (by omega) d3 (by omega)))) ?_
            refine lexQ rfl rfl rfl rfl (fun H hM => (yFieldAddr rfl Try.underlying24 rfl Try.sizeOf22 rfl rfl)) ?_
            refine lexQ rfl rfl rfl rfl (fun H hM => (yLoad rfl Try.underlying22 rfl rfl (hM.ext.cell (st5.b5.cell rfl)))) ?_
            refine lexQ rfl rfl rfl rfl (fun H hM => (yMove (v := .int _ _) rfl rfl)) ?_
            refine lexQ rfl rfl rfl rfl (fun H hM => (yMove (v := .int _ _) rfl rfl)) ?_
            refine lexQ rfl rfl rfl rfl (fun H hM => (yMul rfl rfl rfl (mul_in (by omega) d3))) ?_
            refine lexQ rfl rfl rfl rfl (fun H hM => (yMove (v := .int _ _) rfl rfl)) ?_
            refine lexQ rfl rfl rfl rfl (fun H hM => (yAdd rfl rfl rfl (add_in (by omega) d3 (by omega)))) ?_
            refine lexQ rfl rfl rfl rfl (fun H hM => (yIdx1 rfl Try.underlying22 Try.sizeOf3 rfl rfl idx_e (by rw [d4]; exact hij))) ?_
            refine lexQ rfl rfl rfl rfl (fun H hM => (yLoad rfl Try.underlying3 rfl rfl (hM.ext.cell a1))) ?_
            refine lexQ rfl rfl rfl rfl (fun H hM => (yFieldAddr rfl Try.underlying24 rfl Try.sizeOf22 rfl rfl)) ?_
            refine lexQ rfl rfl rfl rfl (fun H hM => (yLoad rfl Try.underlying22 rfl rfl (hM.ext.cell (st5.b5.cell rfl)))) ?_
            refine lexQ rfl rfl rfl rfl (fun H hM => (yMove (v := .int _ _) rfl rfl)) ?_
            refine lexQ rfl rfl rfl rfl (fun H hM => (yMove (v := .int _ _) rfl rfl)) ?_
            refine lexQ rfl rfl rfl rfl (fun H hM => (yMul rfl rfl rfl (mul_in (by omega) d3))) ?_
            refine lexQ rfl rfl rfl rfl (fun H hM => (yMove (v := .int _ _) rfl rfl)) ?_
            refine lexQ rfl rfl rfl rfl (fun H hM => (yAdd rfl rfl rfl (add_in (by omega) d3 (by omega)))) ?_
            refine lexQ rfl rfl rfl rfl (fun H hM => (yIdx1 rfl Try.underlying22 Try.sizeOf3 rfl rfl idx_e (by rw [d4]; exact hik))) ?_
            refine lexQ rfl rfl rfl rfl (fun H hM => (yLoad rfl Try.underlying3 rfl rfl (hM.ext.cell a2))) ?_
            refine lexQ rfl rfl rfl rfl (fun H hM => (yFieldAddr rfl Try.underlying24 rfl Try.sizeOf22 rfl rfl)) ?_
            refine lexQ rfl rfl rfl rfl (fun H hM => (yLoad rfl Try.underlying22 rfl rfl (hM.ext.cell (st5.b5.cell rfl)))) ?_
            refine lexQ rfl rfl rfl rfl (fun H hM => (yMove (v := .int _ _) rfl rfl)) ?_
            refine lexQ rfl rfl rfl rfl (fun H hM => (yMove (v := .int _ _) rfl rfl)) ?_
            refine lexQ rfl rfl rfl rfl (fun H hM => (yMul rfl rfl rfl (mul_in (by omega) d3))) ?_
            refine lexQ rfl rfl rfl rfl (fun H hM => (yMove (v := .int _ _) rfl rfl)) ?_
            refine lexQ rfl rfl rfl rfl (fun H hM => (yAdd rfl rfl rfl (add_in (by omega) d3 (by omega)))) ?_
            refine lexQ rfl rfl rfl rfl (fun H hM => (yIdx1 rfl Try.underlying22 Try.sizeOf3 rfl rfl idx_e (by rw [d4]; exact hkj))) ?_
            refine lexQ rfl rfl rfl rfl (fun H hM => (yLoad rfl Try.underlying3 rfl rfl (hM.ext.cell a3))) ?_
            refine lexQ rfl rfl rfl rfl (fun H hM => (yAdd rfl rfl rfl (hbm.sum (by omega) hi hj hk))) ?_
            refine lexQ rfl rfl rfl rfl (fun H hM => (yMax rfl rfl rfl)) ?_
            refine lexQ rfl rfl rfl rfl (fun H hM => (yMin rfl rfl rfl)) ?_
            -- tail
            refine lexNil0 rfl (fun hM => ?_)
            refine seqQ rfl rfl (yIdx1 rfl Try.underlying22 Try.sizeOf3 rfl rfl idx_e (by rw [d4]; exact hij)) ?_
            -- e slot None: store T3 t109 t108
            refine seqE0 rfl rfl (stepStoreOwn st5.own rfl Try.sizeOf3 rfl rfl rfl rfl (by rw [hl5]; exact hij) ?_)
            intro H5 hown5 hK5
            refine seqNil ?_
            refine hF28 _ _ ?_; clear hF28
            refine wpRegion ?_
            refine seqQ rfl rfl (yMove (v := .int _ _) rfl rfl) ?_
            refine seqQ rfl rfl (yAdd rfl rfl rfl (by unfold In64; omega)) ?_
            refine seqQ rfl rfl (yAssign (v := .int _ _) rfl rfl) ?_
            refine seqNil ?_
            -- end loop
            exact loopEnd (j + 1) (by repeat (first | (with_reducible exact Agree.refl _ _) | refine Agree.upd ?_ rfl | refine Agree.over ?_ rfl)) (by omega) ⟨rfl, trivial⟩ ⟨hj, st5.store hown5 hK5⟩
          · skip
            obtain rfl : j = dm z := by omega
            refine wpExit ?_
            refine hF24 _ _ ?_; clear hF24
            refine wpRegion ?_
            refine seqQ rfl rfl (yMove (v := .int _ _) rfl rfl) ?_
            refine seqQ rfl rfl (yAdd rfl rfl rfl (by unfold In64; omega)) ?_
            refine seqQ rfl rfl (yAssign (v := .int _ _) rfl rfl) ?_
            refine seqNil ?_
            -- end loop
            exact loopEnd (i + 1) (by repeat (first | (with_reducible exact Agree.refl _ _) | refine Agree.upd ?_ rfl | refine Agree.over ?_ rfl)) (by omega) ⟨rfl, trivial⟩ ⟨hi, st5⟩
        · skip
          obtain rfl : i = dm z := by omega
          refine wpExit ?_
          refine hF20 _ _ ?_; clear hF20
          refine wpRegion ?_
          refine seqQ rfl rfl (yMove (v := .int _ _) rfl rfl) ?_
          refine seqQ rfl rfl (yAdd rfl rfl rfl (by unfold In64; omega)) ?_
          refine seqQ rfl rfl (yAssign (v := .int _ _) rfl rfl) ?_
          refine seqNil ?_
          -- end loop
          exact loopEnd (k + 1) (by repeat (first | (with_reducible exact Agree.refl _ _) | refine Agree.upd ?_ rfl | refine Agree.over ?_ rfl)) (by omega) ⟨rfl, trivial⟩ ⟨hk, st4⟩
      · skip
        have ek : k = dm z := by omega
        rw [ek] at st3
        clear ek hk hlt
        have hlf : (fw (max (-20001)) (dm z) (dm z) (m0L (dm z) z.b)).length = dm z * dm z := by rw [fw_len, hl0]
        obtain ⟨rc1, rc2⟩ := ref_close hv
        refine wpExit ?_
        refine hF16 _ _ ?_; clear hF16
        refine wpSeq fun F29 hF29 => ?_
        refine wpSeq fun F30 hF30 => ?_
        refine wpRegion ?_
        refine seqQ rfl rfl (yAssign (v := .int _ _) rfl rfl) ?_
        refine seqNil ?_
        refine hF30 _ _ ?_; clear hF30
        -- loop
        refine wpBlock ?_
        refine wpLoopS [3, 11, 110, 111, 112, 113, 114, 115, 116, 117, 118, 119, 120, 121, 122, 123, 124, 125] (fun a : Nat => [(11, .int .i64 a)]) (fun a H' => a ≤ dm z ∧ H' = Hk ∧ ∀ b, b < a → 0 ≤ mt (dm z) (fw (max (-20001)) (dm z) (dm z) (m0L (dm z) z.b)) b b) (fun a => dm z - a) 0 ⟨rfl, trivial⟩ ⟨Nat.zero_le _, rfl, fun b h => absurd h (by omega)⟩ ?_
        rintro a J5 _ ⟨ha, e, hdg2⟩
        obtain rfl := e.symm
        clear e
        refine wpSeq fun F31 hF31 => ?_
        refine wpSeq fun F32 hF32 => ?_
        refine wpRegion ?_
        refine seqQ rfl rfl (yMove (v := .int _ _) rfl rfl) ?_
        refine seqQ rfl rfl (yMove (v := .int _ _) rfl rfl) ?_
        refine seqQ rfl rfl (yLss rfl rfl rfl) ?_
        refine seqNil ?_
        refine hF32 _ _ ?_; clear hF32
        -- if t112
        refine wpIf rfl (fun hlt5 => ?_) (fun hlt5 => ?_)
        · skip
          have ha : a < dm z := by omega
          have haa := idx_lt ha ha
          have a1 := st3.at_ hlf ha ha
          refine wpSkip ?_
          refine hF31 _ _ ?_; clear hF31
          refine wpSeq fun F33 hF33 => ?_
          refine wpBlock ?_
          refine wpSeq fun F34 hF34 => ?_
          refine wpRegion ?_
          refine seqQ rfl rfl (yFieldAddr rfl Try.underlying24 rfl Try.sizeOf22 rfl rfl) ?_
          refine seqQ rfl rfl (yLoad rfl Try.underlying22 rfl rfl (st3.b5.cell rfl)) ?_
          refine seqQ rfl rfl (yMove (v := .int _ _) rfl rfl) ?_
          refine seqQ rfl rfl (yMove (v := .int _ _) rfl rfl) ?_
          refine seqQ rfl rfl (yMul rfl rfl rfl (mul_in (by omega) d3)) ?_
          refine seqQ rfl rfl (yMove (v := .int _ _) rfl rfl) ?_
          refine seqQ rfl rfl (yAdd rfl rfl rfl (add_in (by omega) d3 (by omega))) ?_
          refine seqQ rfl rfl (yIdx1 rfl Try.underlying22 Try.sizeOf3 rfl rfl idx_e (by rw [d4]; exact haa)) ?_
          refine seqQ rfl rfl (yLoad rfl Try.underlying3 rfl rfl a1) ?_
          refine seqQ rfl rfl (yLss rfl rfl rfl) ?_
          refine seqNil ?_
          refine hF34 _ _ ?_; clear hF34
          -- if t124
          refine wpIf rfl (fun hneg => ?_) (fun hneg => ?_)
          · skip
            refine wpSeq fun F35 hF35 => ?_
            refine wpRegion ?_
            refine seqQ rfl rfl (yBuild (pl := [(0, 1), (1, 1)]) (vs := []) rfl Try.underlying24 Try.zeroValue24 rfl (by unfold Places; kernel_rfl) rfl rfl) ?_
            -- e slot None: store T24 t2 t125
            refine seqE0 rfl rfl (stepStoreB rfl (by kernel_rfl) rfl rfl rfl st3.b2 rfl ?_)
            intro H7 hB7 hK7
            refine seqQ rfl rfl (yAssign (v := .bool _) rfl rfl) ?_
            refine seqNil ?_
            refine hF35 _ _ ?_; clear hF35
            -- ret
            refine wpRet (finR2 rfl (resC Try.underlying24 rfl (by kernel_rfl) rfl hB7) (resT (v := .bool _) rfl) ?_)
            have hd := st3.done hK7
            rw [closeZ_f (fun h => by
              have h1 := rc1.1 h a ha
              omega)]
            exact ⟨hd.1, _, rfl, ZO.zero _ _⟩
          · skip
            refine wpSkip ?_
            refine hF33 _ _ ?_; clear hF33
            refine wpRegion ?_
            refine seqQ rfl rfl (yMove (v := .int _ _) rfl rfl) ?_
            refine seqQ rfl rfl (yAdd rfl rfl rfl (by unfold In64; omega)) ?_
            refine seqQ rfl rfl (yAssign (v := .int _ _) rfl rfl) ?_
            refine seqNil ?_
            -- end loop
            exact loopEnd (a + 1) (by repeat (first | (with_reducible exact Agree.refl _ _) | refine Agree.upd ?_ rfl | refine Agree.over ?_ rfl)) (by omega) ⟨rfl, trivial⟩ ⟨ha, rfl, fun b hb => by
              rcases Nat.lt_or_ge b a with h | h
              · exact hdg2 b h
              · obtain rfl : b = a := by omega
                omega⟩
        · skip
          have ea : a = dm z := by omega
          have hdg := rc1.2 (fun b hb => hdg2 b (by omega))
          refine wpExit ?_
          refine hF29 _ _ ?_; clear hF29
          refine wpSeq fun F36 hF36 => ?_
          refine wpRegion ?_
          refine seqQ rfl rfl (yLoadB st3.b5 rfl Try.underlying24 rfl Try.sizeOf24 rfl) ?_
          -- e slot None: store T24 t2 t126
          refine seqE0 rfl rfl (stepStoreB rfl (by kernel_rfl) rfl rfl rfl st3.b2 rfl ?_)
          intro H7 hB7 hK7
          refine seqQ rfl rfl (yAssign (v := .bool _) rfl rfl) ?_
          refine seqNil ?_
          refine hF36 _ _ ?_; clear hF36
          -- ret
          refine wpRet (finR2 rfl (resC Try.underlying24 rfl (by kernel_rfl) rfl hB7) (resT (v := .bool _) rfl) ?_)
          have hd := st3.done hK7
          rw [closeZ_t hv hdg, rc2 hdg]
          exact ⟨hd.1, _, rfl, ZO.of (N := z.N) hd.2⟩
end Go.Proofs.Ytjkbkmbblidipaa
