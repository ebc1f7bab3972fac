/- LinkPlain: with an empty pattern, packets arrive in the order in which they were sent, each after one tick. Conditions: none beyond the statement's. -/
import Derived.Test.YtckbcfldjniafaaL17
namespace Go.Proofs.Ytckbcfldjniafaa
open Go.ChangeShapes Go.WideShapes Go.ChangeAt Go.RowKit Go.Deep

/-- All copies come at the next tick. -/
structure Next (n : Int) (f : List Fl) : Prop where
  len : f.length ≤ 2
  due : ∀ x ∈ f, x.1 = n + 1 ∧ x.2.length ≤ 60
set_option maxRecDepth 100000 in
theorem tw_all {α : Type} {p : α → Bool} : ∀ {l : List α}, (∀ x ∈ l, p x = true) → l.takeWhile p = l
  | [], _ => rfl
  | a :: l, h => by rw [List.takeWhile_cons_of_pos (h a (by simp)), tw_all fun x hx => h x (by simp [hx])]
set_option maxRecDepth 100000 in
theorem dw_all {α : Type} {p : α → Bool} : ∀ {l : List α}, (∀ x ∈ l, p x = true) → l.dropWhile p = []
  | [], _ => rfl
  | a :: l, h => by rw [List.dropWhile_cons_of_pos (h a (by simp)), dw_all fun x hx => h x (by simp [hx])]
set_option maxRecDepth 100000 in
theorem Next.valid {n s : Int} {f : List Fl} (h : Next n f) (hn : 0 ≤ n ∧ n ≤ 30) (hs : 0 ≤ s ∧ s ≤ 60) : ValidL ⟨[], n, s, f⟩ := by
  refine ValidL.of (by simp) ⟨hn.1, by show n ≤ _; omega⟩ ⟨hs.1, by show s ≤ _; omega⟩ ⟨by have := h.len; show f.length ≤ 300; omega, ?_, fun x hx => ?_⟩
  · show f.Pairwise _
    rw [List.pairwise_iff_getElem]
    intro i j hi hj hij
    rw [(h.due _ (List.getElem_mem hi)).1, (h.due _ (List.getElem_mem hj)).1]
    exact Int.le_refl _
  · have := h.due x hx
    show n < x.1 ∧ x.1 ≤ n + 8 ∧ _
    omega
set_option maxRecDepth 100000 in
theorem plain_send {n s : Int} {f : List Fl} {d : List UInt8} (h : Next n f) (hn : 0 ≤ n ∧ n ≤ 30) (hs : 0 ≤ s ∧ s ≤ 60) (hd : d.length ≤ 60) : sendL ⟨[], n, s, f⟩ d = (0, ⟨[], n, s + 1, f ++ [(n + 1, d)]⟩) := by
  rw [sendL_ok (by intro hc; rcases hc with hc | hc; exact hc (h.valid hn hs); have hc : s = 1099511627776 := hc; omega) (by omega)]
  have e1 : fate ⟨[], n, s, f⟩ = 0 := if_pos rfl
  have e2 : delays 0 = [1] := by decide
  have e3 : arr 0 d = d := if_neg (by intro hc; exact absurd hc.1 (by decide))
  rw [e1, e2, e3]
  have e4 : insF f (n + 1, d) = f ++ [(n + 1, d)] := by
    unfold insF
    rw [if_neg (by have := h.len; omega)]
    have e5 : ∀ x ∈ f, decide (x.1 ≤ n + 1) = true := fun x hx => by have := (h.due x hx).1; simp; omega
    rw [tw_all e5, dw_all e5]
  show (0, (⟨[], n, s + 1, insF f (n + 1, d)⟩ : Lk)) = _
  rw [e4]
set_option maxRecDepth 100000 in
theorem plain_tick {n s : Int} {f : List Fl} (h : Next n f) (hn : 0 ≤ n ∧ n ≤ 30) (hs : 0 ≤ s ∧ s ≤ 60) : tickL ⟨[], n, s, f⟩ = (⟨[], n + 1, s, []⟩, f.map (·.2)) := by
  rw [tickL_ok (by intro hc; rcases hc with hc | hc; exact hc (h.valid hn hs); have hc : n = 1099511627776 := hc; omega)]
  have e5 : ∀ x ∈ f, decide (x.1 = n + 1) = true := fun x hx => by have := (h.due x hx).1; simp; omega
  show ((⟨[], n + 1, s, f.dropWhile fun x => decide (x.1 = n + 1)⟩ : Lk), (f.takeWhile fun x => decide (x.1 = n + 1)).map (·.2)) = _
  rw [tw_all e5, dw_all e5]
set_option maxRecDepth 100000 in
theorem next_nil (n : Int) : Next n [] := ⟨by simp, fun x hx => by cases hx⟩
set_option maxRecDepth 100000 in
theorem next_one {n : Int} {d : List UInt8} (h : d.length ≤ 60) : Next n [(n + 1, d)] := ⟨by simp, fun x hx => by obtain rfl := List.mem_singleton.1 hx; exact ⟨rfl, h⟩⟩
set_option maxRecDepth 100000 in
theorem next_two {n : Int} {d d' : List UInt8} (h : d.length ≤ 60) (h' : d'.length ≤ 60) : Next n [(n + 1, d), (n + 1, d')] := ⟨by simp, fun x hx => by
  rcases List.mem_cons.1 hx with rfl | hx
  · exact ⟨rfl, h⟩
  · obtain rfl := List.mem_singleton.1 hx
    exact ⟨rfl, h'⟩⟩
set_option maxRecDepth 100000 in
theorem Next.sm {n s : Int} {f : List Fl} {L : LH} (h : Next n f) (e : L.lk = ⟨[], n, s, f⟩) : LkSm L := sm_of e (by simp) (by have := h.len; show f.length ≤ _; omega) (fun x hx => by have := (h.due x hx).2; omega)
set_option maxRecDepth 100000 in
theorem two_bh {bs : List BH} {d d' : List UInt8} (h : bs.map BH.data = [d, d']) : ∃ A c A' c', bs = [⟨A, c, d⟩, ⟨A', c', d'⟩] := by
  match bs, h with
  | [x, y], h =>
    simp at h
    obtain ⟨rfl, rfl⟩ := h
    exact ⟨_, _, _, _, rfl⟩
set_option maxRecDepth 100000 in
theorem plain_walk (A : Option Addr) (ca : Nat) (l : List StepH) (H : Heap) (hA : Rd eStep H A l) (hdat : ∀ x ∈ l, Rd eByte H x.A x.data) (hl : l.length ≤ 9223372036854775807) :
    CallsH Try.prog 6 [.slice A l.length ca] H fun v H' => v = .bool true ∧ Ext H H' := by
  refine callsH_of Try.func6 rfl Try.ntmps6 (Nat.le_of_ble_eq_true rfl) ?_
  refine wpSeq fun F1 hF1 => ?_
  refine wpRegion ?_
  refine seqQ rfl rfl (yAssign (v := .bool _) rfl rfl) ?_
  refine seqNil ?_
  refine hF1 _ _ ?_; clear hF1
  refine wpSeq fun F2 hF2 => ?_
  refine wpSeq fun F3 hF3 => ?_
  refine wpRegion ?_
  -- e slot 12: call F9<farandole/farandolelaw45.awake> 
  refine seqE rfl rfl (stepCall rfl Try.call9 rfl ?_)
  refine (lkAwake_c _).mono ?_
  rintro v Ha ⟨rfl, xa⟩
  refine seqQ rfl rfl (yNot rfl rfl) ?_
  refine seqNil ?_
  refine hF3 _ _ ?_; clear hF3
  -- if t13
  refine wpF rfl ?_
  refine wpSkip ?_
  refine hF2 _ _ ?_; clear hF2
  refine wpSeq fun F4 hF4 => ?_
  refine wpSeq fun F5 hF5 => ?_
  refine wpRegion ?_
  refine seqQ rfl rfl (yMove (v := .slice _ _ _) rfl rfl) ?_
  -- e slot 15: call F23<farandole/farandolelaw45.few> t14
  refine seqE rfl rfl (stepCall rfl Try.call23 rfl ?_)
  refine (fewS_c A ca l Ha (hA.ext xa) hl).mono ?_
  rintro v _ ⟨rfl, e⟩; obtain rfl := e.symm; clear e
  refine seqQ rfl rfl (yNot rfl rfl) ?_
  refine seqNil ?_
  refine hF5 _ _ ?_; clear hF5
  -- if t16
  refine wpCond rfl (fun hfew => ?_) (fun hfew => ?_)
  · skip
    refine wpSeq fun F6 hF6 => ?_
    refine wpRegion ?_
    refine seqQ rfl rfl (yAssign (v := .bool _) rfl rfl) ?_
    refine seqNil ?_
    refine hF6 _ _ ?_; clear hF6
    -- ret
    refine wpRet (fin1 (v := .bool _) rfl rfl ?_)
    exact ⟨rfl, xa⟩
  · skip
    have hf : FewS l := by simpa using hfew
    obtain ⟨hf1, hf2⟩ := hf
    clear hfew
    refine wpSkip ?_
    refine hF4 _ _ ?_; clear hF4
    refine wpSeq fun F7 hF7 => ?_
    refine wpRegion ?_
    -- e slot 18: call F21<farandole/link.New> [nilslice:0:0]
    refine seqE rfl rfl (stepCall rfl Try.call21 rfl ?_)
    refine (new_c none 0 [] Ha (Rd.nil _ _) (by simp)).mono ?_
    rintro v Hb ⟨L1, hv, e1, r1, xb⟩
    have en : newL [] = (0, ⟨[], 0, 0, []⟩) := if_neg (by simp)
    rw [en] at hv e1
    subst hv
    refine seqQ rfl rfl (yMove (v := .tuple _) rfl rfl) ?_
    refine seqQ rfl rfl (yExtract (v := .agg _) rfl rfl rfl) ?_
    refine seqQ rfl rfl (yExtract (v := .int _ _) rfl rfl rfl) ?_
    refine seqN rfl rfl (nAlloc rfl Try.zeroValue30 rfl) (fun g3 H3 hx3 hB3 hg3 hl3 => ?_)
    -- e slot None: store T30 t3 t19
    refine seqE0 rfl rfl (stepStoreB rfl (by kernel_rfl) rfl rfl rfl hB3 rfl ?_)
    intro Hc h3 hKc
    have xbc : Ext Hb Hc := hx3.mine hKc (by simp; omega)
    have hE : Ext H Hc := (xa.trans xb).trans xbc
    have r1' := r1.rd.ext xbc
    have g3H : H.size ≤ g3 := by have := xa.size; have := xb.size; omega
    clear xa xb hx3 hB3 hKc xbc r1
    have zE := hE.size
    refine seqQ rfl rfl (yAssign (v := .int _ _) rfl rfl) ?_
    refine seqNil ?_
    refine hF7 _ _ ?_; clear hF7
    refine wpSeq fun F8 hF8 => ?_
    refine wpSeq fun F9 hF9 => ?_
    refine wpRegion ?_
    refine seqQ rfl rfl (yAssign (v := .int _ _) rfl rfl) ?_
    refine seqNil ?_
    refine hF9 _ _ ?_; clear hF9
    -- loop
    refine wpBlock ?_
    refine wpLoopS [2, 5, 6, 7, 8, 9, 10, 11, 21, 22, 23, 24, 25, 26, 27, 28, 29, 30, 31, 32, 33, 34, 35, 36, 37, 38, 39, 40, 41, 42, 43, 44, 45, 46, 47, 48, 49, 50, 51, 52, 53, 54, 55, 56, 57, 58, 59, 60, 61, 62, 63, 64, 65, 66, 67, 68, 69, 70, 71, 72, 73, 74, 75, 76, 77, 78, 79, 80, 81, 82, 83, 84, 85, 86, 87, 88, 89, 90, 91, 92, 93, 94, 95, 96, 97, 98, 99, 100, 101, 102, 103, 104, 105, 106, 107, 108, 109, 110, 111, 112, 113, 114, 115, 116, 117, 118, 119, 120, 121, 122, 123, 124, 125, 126] (fun i : Nat => [(5, .int .i64 i)]) (fun i H' => i ≤ l.length ∧ Ext H H' ∧ ∃ (L : LH) (n s : Nat), Blk H' g3 (lkC L) 30 ∧ LkRd H' L ∧ L.lk = ⟨[], n, s, []⟩ ∧ n ≤ i ∧ s = i) (fun i => l.length - i) 0 ⟨rfl, trivial⟩ ⟨Nat.zero_le _, hE, L1, 0, 0, h3, r1', e1, Nat.le_refl _, rfl⟩ ?_
    clear hE h3 r1' e1
    rintro i J Hi ⟨hi, hE, L, n, s, h3, r, e, hn, rfl⟩
    have gl3 := h3.lt
    have zi := hE.size
    refine wpSeq fun F10 hF10 => ?_
    refine wpSeq fun F11 hF11 => ?_
    refine wpRegion ?_
    refine seqQ rfl rfl (yMove (v := .int _ _) rfl rfl) ?_
    refine seqQ rfl rfl (yMove (v := .slice _ _ _) rfl rfl) ?_
    refine seqQ rfl rfl (yLen rfl Try.underlying49 rfl) ?_
    refine seqQ rfl rfl (yLss rfl rfl rfl) ?_
    refine seqNil ?_
    refine hF11 _ _ ?_; clear hF11
    -- if t24
    refine wpIf rfl (fun hil => ?_) (fun hil => ?_)
    · skip
      have hi : s < l.length := by omega
      have hs30 : s < 30 := by omega
      obtain ⟨p, ep, hp⟩ := (hA.ext hE).at hi
      have hd1 := hf1 s hi
      have rd1 := (hdat _ (List.getElem_mem hi)).ext hE
      refine wpSkip ?_
      refine hF10 _ _ ?_; clear hF10
      refine wpSeq fun F12 hF12 => ?_
      refine wpBlock ?_
      refine wpSeq fun F13 hF13 => ?_
      refine wpRegionD Try_mixed [.q, .q, .q, .q, .q, .q, .e, .q, .q, .q, .n, .e, .q] 12 [0, 0, 0, 6, 14, 30, 63, 127, 255, 255, 0, 1535, 4095] [] (by kernel_rfl) _ rfl [0, 1, 2, 3, 4, 5, 6, 7, 8, 9, 10, 11] rfl (by simp) ?_
      refine lexQ rfl rfl rfl rfl (fun H hM => (yLoadB (h3.ext hM.ext) rfl Try.underlying30 rfl Try.sizeOf30 rfl)) ?_
      refine lexQ rfl rfl rfl rfl (fun H hM => (yMove (v := .slice _ _ _) rfl rfl)) ?_
      refine lexQ rfl rfl rfl rfl (fun H hM => (yMove (v := .int _ _) rfl rfl)) ?_
      refine lexQ rfl rfl rfl rfl (fun H hM => (yIdxP rfl Try.underlying49 Try.sizeOf53 rfl rfl ep rfl hi)) ?_
      refine lexQ rfl rfl rfl rfl (fun H hM => (yFieldAddr rfl Try.underlying53 rfl Try.sizeOf22 rfl rfl)) ?_
      refine lexQ rfl rfl rfl rfl (fun H hM => (yLoad rfl Try.underlying22 rfl rfl (hM.ext.cell (hp 1 _ rfl)))) ?_
      -- e slot 34: call F22<farandole/link.Send> t28 t33
      refine lexE rfl rfl rfl rfl (fun H34 hX34 hM34 hN34 => stepCall rfl Try.call22 rfl ?_)
      have hc := send_c L l[s].A l[s].cap l[s].data _ (r.ext hX34) ((next_nil n).sm e) (rd1.ext hX34) (by omega)
      rw [e, plain_send (next_nil n) (by omega) (by omega) hd1] at hc
      dsimp only at hc
      refine hc.mono ?_
      rintro v K3 ⟨L2, rfl, e2, r2, k3⟩
      simp only [List.nil_append] at e2
      refine lexFr (F := L2.blksIn H34.size K3.size) k3 (fun b hb => LH.in_blks hb) (by simp) ?_
      refine lexQ rfl rfl rfl rfl (fun H hM => (yMove (v := .tuple _) rfl rfl)) ?_
      refine lexQ rfl rfl rfl rfl (fun H hM => (yExtract (v := .agg _) rfl rfl rfl)) ?_
      refine lexQ rfl rfl rfl rfl (fun H hM => (yExtract (v := .int _ _) rfl rfl rfl)) ?_
      refine lexNB rfl rfl rfl rfl (nAlloc rfl Try.zeroValue30 rfl) (fun g6 hg6 hne6 => ?_)
      -- e slot None: store T30 t6 t35
      refine lexES0 rfl rfl rfl rfl (by first | assumption | omega) (by first | (dsimp only; rfl) | kernel_rfl) (by simp) (fun Hs hXs hMs hBs hFs => stepStoreB rfl (by kernel_rfl) rfl rfl rfl hBs rfl ?_)
      intro K4 h6 hK4
      refine ⟨hK4, fun b hb => by rw [List.append_nil] at hb; have := (LH.in_blks hb).2; have := hXs.size; omega, ?_⟩
      -- tail
      refine lexNil (fun K5 hX5 hM5 hN5 => ?_)
      have zz := hX34.size
      have xi5 := (((hX34.trans k3).trans hXs).mine hK4 (by simp; omega)).trans hX5
      replace h6 := h6.ext hX5
      replace r2 := (r2.beside hXs hK4 hFs).ext hX5
      replace h3 := h3.ext xi5
      replace hE := hE.trans xi5
      have g63 : g6 ≠ g3 := by omega
      have b2 : H.size ≤ H34.size := by omega
      clear hXs hK4 hX5 hN5 hFs hc hX34 k3 r e xi5 hBs hMs hM5 hM34
      refine seqQ rfl rfl (yAssign (v := .int _ _) rfl rfl) ?_
      refine seqNil ?_
      refine hF13 _ _ ?_; clear hF13
      refine wpSeq fun F14 hF14 => ?_
      refine wpSeq fun F15 hF15 => ?_
      refine wpRegion ?_
      refine seqQ rfl rfl (yMove (v := .int _ _) rfl rfl) ?_
      refine seqQ rfl rfl (yNeq rfl rfl rfl) ?_
      refine seqNil ?_
      refine hF15 _ _ ?_; clear hF15
      -- if t38
      refine wpF rfl ?_
      refine wpSkip ?_
      refine hF14 _ _ ?_; clear hF14
      refine wpSeq fun F16 hF16 => ?_
      refine wpRegion ?_
      refine seqQ rfl rfl (yLoadB h6 rfl Try.underlying30 rfl Try.sizeOf30 rfl) ?_
      -- e slot None: store T30 t3 t39
      refine seqE0 rfl rfl (stepStoreB rfl (by kernel_rfl) rfl rfl rfl h3 rfl ?_)
      intro H6 h3' hK6
      replace h3 : Blk H6 g3 (lkC L2) 30 := h3'
      replace h6 := h6.keep hK6 (by simp; omega)
      have gl6 := h6.lt
      have gl3 := h3.lt
      have g6H : H.size ≤ g6 := by omega
      replace hE := hE.mine hK6 (by simp; omega)
      replace r2 := (r2.keep hK6 (by simp; omega)).rd
      clear h3' hK6
      obtain ⟨p, ep, hp⟩ := (hA.ext hE).at hi
      have h8 := l[s].ticks.toNat_lt
      refine seqNil ?_
      refine hF16 _ _ ?_; clear hF16
      refine wpSeq fun F17 hF17 => ?_
      refine wpSeq fun F18 hF18 => ?_
      refine wpRegion ?_
      refine seqQ rfl rfl (yMove (v := .slice _ _ _) rfl rfl) ?_
      refine seqQ rfl rfl (yMove (v := .int _ _) rfl rfl) ?_
      refine seqQ rfl rfl (yIdxP rfl Try.underlying49 Try.sizeOf53 rfl rfl ep rfl hi) ?_
      refine seqQ rfl rfl (yFieldAddr rfl Try.underlying53 rfl Try.sizeOf5 rfl rfl) ?_
      refine seqQ rfl rfl (yLoad rfl Try.underlying5 rfl rfl (hp 2 _ rfl)) ?_
      refine seqQ rfl rfl (yRem rfl rfl rfl (by omega)) ?_
      refine seqQ rfl rfl (yEql rfl rfl rfl) ?_
      -- guard t47
      refine seqMeet 14 [47, 48, 49, 50, 51, 52, 53] 53 (decide (l[s].ticks.toNat % 2 = 0 ∧ s + 1 < l.length)) (fun hm19 => ?_) (fun J19 => ?_)
      · skip
        first | refine seqG rfl rfl rfl rfl (fun h47 => ?_) (fun h47 => ?_) | refine seqGB rfl rfl rfl rfl (fun h47 => ?_) (fun h47 => ?_)
        · skip
          refine seqQ rfl rfl (yMove (v := .int _ _) rfl rfl) ?_
          refine seqQ rfl rfl (yAdd rfl rfl rfl (by unfold In64; omega)) ?_
          refine seqQ rfl rfl (yMove (v := .slice _ _ _) rfl rfl) ?_
          refine seqQ rfl rfl (yLen rfl Try.underlying49 rfl) ?_
          refine seqQ rfl rfl (yLss rfl rfl rfl) ?_
          refine seqQ rfl rfl (yPickT (v := .bool _) rfl rfl rfl) ?_
          exact hm19 _ (by repeat (first | (with_reducible exact Agree.refl _ _) | refine Agree.upd ?_ rfl | refine Agree.over ?_ rfl)) (by show Value.bool _ = Value.bool _; congr 1; first | (rw [decide_eq_decide]; omega) | (rw [eq_comm, decide_eq_false_iff_not]; omega))
        · skip
          refine seqU rfl rfl ?_
          refine seqU rfl rfl ?_
          refine seqU rfl rfl ?_
          refine seqU rfl rfl ?_
          refine seqU rfl rfl ?_
          refine seqQ rfl rfl (yPickF (v := .bool _) rfl rfl rfl) ?_
          exact hm19 _ (by repeat (first | (with_reducible exact Agree.refl _ _) | refine Agree.upd ?_ rfl | refine Agree.over ?_ rfl)) (by show Value.bool _ = Value.bool _; congr 1; first | (rw [decide_eq_decide]; omega) | (rw [eq_comm, decide_eq_false_iff_not]; omega))
      refine seqNil ?_
      refine hF18 _ _ ?_; clear hF18
      -- if t53
      refine wpIf rfl (fun hpair => ?_) (fun hpair => ?_)
      · skip
        have hi1 : s + 1 < l.length := hpair.2
        have hd2 := hf1 (s + 1) hi1
        have rd2 := (hdat _ (List.getElem_mem hi1)).ext hE
        obtain ⟨p, ep, hp⟩ := (hA.ext hE).at hi1
        have hpb : p.block < H.size := by
          obtain ⟨q, eq, hq⟩ := hA.lt (by omega)
          rw [ep] at eq
          obtain rfl := Option.some.inj eq
          exact hq
        refine wpSeq fun F20 hF20 => ?_
        refine wpRegion ?_
        refine seqQ rfl rfl (yMove (v := .int _ _) rfl rfl) ?_
        refine seqQ rfl rfl (yAdd rfl rfl rfl (by unfold In64; omega)) ?_
        refine seqQ rfl rfl (yAssign (v := .int _ _) rfl rfl) ?_
        refine seqNil ?_
        refine hF20 _ _ ?_; clear hF20
        refine wpSeq fun F21 hF21 => ?_
        refine wpSeq fun F22 hF22 => ?_
        refine wpRegionD Try_mixed [.q, .q, .q, .q, .q, .q, .e, .q, .q, .q, .e, .q] 11 [0, 0, 0, 6, 14, 30, 63, 127, 255, 255, 511, 2047] [g6] (by kernel_rfl) _ rfl [0, 1, 2, 3, 4, 5, 6, 7, 8, 9, 10] rfl (by simp; omega) ?_
        refine lexQ rfl rfl rfl rfl (fun H hM => (yLoadB (h3.keep hM (by first | (simp only [block_of_add]; simp; omega) | (simp; omega))) rfl Try.underlying30 rfl Try.sizeOf30 rfl)) ?_
        refine lexQ rfl rfl rfl rfl (fun H hM => (yMove (v := .slice _ _ _) rfl rfl)) ?_
        refine lexQ rfl rfl rfl rfl (fun H hM => (yMove (v := .int _ _) rfl rfl)) ?_
        refine lexQ rfl rfl rfl rfl (fun H hM => (yIdxP rfl Try.underlying49 Try.sizeOf53 rfl rfl ep rfl hi1)) ?_
        refine lexQ rfl rfl rfl rfl (fun H hM => (yFieldAddr rfl Try.underlying53 rfl Try.sizeOf22 rfl rfl)) ?_
        refine lexQ rfl rfl rfl rfl (fun H hM => (yLoad rfl Try.underlying22 rfl rfl (hM.cell (hp 1 _ rfl) (by first | (simp only [block_of_add]; simp; omega) | (simp; omega))))) ?_
        -- e slot 63: call F22<farandole/link.Send> t57 t62
        refine lexX0 rfl rfl rfl rfl rfl (by simp; omega) (fun hM63 => stepCall rfl Try.call22 rfl ?_)
        have hc := send_c L2 l[s + 1].A l[s + 1].cap l[s + 1].data _ r2 ((next_one hd1).sm e2) rd2 (by omega)
        rw [e2, plain_send (next_one hd1) (by omega) (by omega) hd2] at hc
        dsimp only at hc
        refine hc.mono ?_
        rintro v K7 ⟨L3, rfl, e3, r3, k7⟩
        simp only [List.cons_append, List.nil_append] at e3
        refine ⟨k7, fun _ => ?_⟩
        refine lexQ rfl rfl rfl rfl (fun H hM => (yMove (v := .tuple _) rfl rfl)) ?_
        refine lexQ rfl rfl rfl rfl (fun H hM => (yExtract (v := .agg _) rfl rfl rfl)) ?_
        refine lexQ rfl rfl rfl rfl (fun H hM => (yExtract (v := .int _ _) rfl rfl rfl)) ?_
        -- e slot None: store T30 t6 t64
        refine lexE00 rfl rfl rfl rfl rfl (fun hMNone => stepStoreB rfl (by kernel_rfl) rfl rfl rfl (h6.ext k7) rfl ?_)
        intro K8 h6' hK8
        have z7 := k7.size
        refine lexSt hK8 (by simp) (by simp; omega) ?_
        -- tail
        refine lexNil0 rfl (fun hM => ?_)
        replace h6 : Blk K8 g6 (lkC L3) 30 := h6'
        replace h3 := (h3.ext k7).keep hK8 (by simp; omega)
        replace r3 := r3.keep hK8 (by simp; omega)
        replace hE := (hE.trans k7).mine hK8 (by simp; omega)
        clear hK8 h6' k7 hc r2 e2
        refine seqQ rfl rfl (yAssign (v := .int _ _) rfl rfl) ?_
        refine seqNil ?_
        refine hF22 _ _ ?_; clear hF22
        refine wpSeq fun F23 hF23 => ?_
        refine wpRegion ?_
        refine seqQ rfl rfl (yMove (v := .int _ _) rfl rfl) ?_
        refine seqQ rfl rfl (yNeq rfl rfl rfl) ?_
        refine seqNil ?_
        refine hF23 _ _ ?_; clear hF23
        -- if t67
        refine wpF rfl ?_
        refine wpSkip ?_
        refine hF21 _ _ ?_; clear hF21
        refine wpSeq fun F24 hF24 => ?_
        refine wpRegion ?_
        refine seqQ rfl rfl (yLoadB h6 rfl Try.underlying30 rfl Try.sizeOf30 rfl) ?_
        -- e slot None: store T30 t3 t68
        refine seqE0 rfl rfl (stepStoreB rfl (by kernel_rfl) rfl rfl rfl h3 rfl ?_)
        intro H9 h3' hK9
        replace h3 : Blk H9 g3 (lkC L3) 30 := h3'
        replace h6 := h6.keep hK9 (by simp; omega)
        replace hE := hE.mine hK9 (by simp; omega)
        replace r3 := (r3.keep hK9 (by simp; omega)).rd
        clear h3' hK9
        have gl9 := h3.lt
        have nx := next_two (n := n) hd1 hd2
        refine seqNil ?_
        refine hF24 _ _ ?_; clear hF24
        refine wpSeq fun F25 hF25 => ?_
        refine wpRegion ?_
        refine seqQ rfl rfl (yLoadB h3 rfl Try.underlying30 rfl Try.sizeOf30 rfl) ?_
        -- e slot 71: call F11<farandole/link.Tick> t70
        refine seqE rfl rfl (stepCall rfl Try.call11 rfl ?_)
        have hc := tick_c L3 H9 r3 (nx.sm e3)
        rw [e3, plain_tick nx (by omega) (by omega)] at hc
        dsimp only [List.map] at hc
        refine hc.mono ?_
        rintro v Hg ⟨L4, VA, vc, bs, rfl, e4, b4, r4, p4, xg⟩
        obtain ⟨A1, c1, A2, c2, rfl⟩ := two_bh b4
        refine seqQ rfl rfl (yMove (v := .tuple _) rfl rfl) ?_
        refine seqQ rfl rfl (yExtract (v := .agg _) rfl rfl rfl) ?_
        refine seqQ rfl rfl (yExtract (v := .slice _ _ _) rfl rfl rfl) ?_
        refine seqN rfl rfl (nAlloc rfl Try.zeroValue30 rfl) (fun g8 H8 hx8 hB8 hg8 hl8 => ?_)
        -- e slot None: store T30 t8 t72
        refine seqE0 rfl rfl (stepStoreB rfl (by kernel_rfl) rfl rfl rfl hB8 rfl ?_)
        intro Hh h8' hKh
        have xh := (hx8.mine hKh (by simp; omega))
        replace hE := (hE.trans xg).trans xh
        replace h3 := (h3.ext xg).ext xh
        replace r4 := r4.ext xh
        replace p4 := p4.ext xh
        have zg := xg.size
        clear hB8 hx8 hKh xh xg hc r3 e3 h6
        have d1 := p4.data _ (List.mem_cons_self ..)
        have d2 := p4.data _ (List.mem_cons_of_mem _ (List.mem_cons_self ..))
        have rd1 := (hdat _ (List.getElem_mem hi)).ext hE
        have rd2 := (hdat _ (List.getElem_mem hi1)).ext hE
        obtain ⟨q, eq, hq⟩ := (hA.ext hE).at hi
        obtain ⟨q2, eq2, hq2⟩ := (hA.ext hE).at hi1
        obtain ⟨x, ex, hx⟩ := p4.rd.at1 (k := 0) (by simp)
        obtain ⟨y, ey, hy⟩ := p4.rd.at1 (k := 1) (by simp)
        refine seqQ rfl rfl (yAssign (v := .slice _ _ _) rfl rfl) ?_
        refine seqNil ?_
        refine hF25 _ _ ?_; clear hF25
        refine wpSeq fun F26 hF26 => ?_
        refine wpSeq fun F27 hF27 => ?_
        refine wpRegionD Try_mixed [.q, .q, .q, .q, .q, .q, .q, .q, .q, .q, .q, .q, .q, .q, .q, .q, .q, .q, .q, .q, .q, .q, .q, .q, .q, .q, .q, .q, .q, .q] 28 [0, 1, 3, 7, 15, 31, 63, 127, 15, 15, 527, 1807, 3855, 7951, 16143, 32767, 65535, 131071, 262143, 524287, 1048575, 2097151, 262143, 262143, 12845055, 29622271, 63176703, 130285567, 268435455, 536870911] [] (by kernel_rfl) _ rfl [0, 1, 2, 3, 4, 5, 6, 7, 8, 9, 10, 11, 12, 13, 14, 15, 16, 17, 18, 19, 20, 21, 22, 23, 24, 25, 26, 27] rfl (by simp) ?_
        refine lexQ rfl rfl rfl rfl (fun H hM => (yMove (v := .slice _ _ _) rfl rfl)) ?_
        refine lexQ rfl rfl rfl rfl (fun H hM => (yLen rfl Try.underlying31 rfl)) ?_
        refine lexQ rfl rfl rfl rfl (fun H hM => (yNeq rfl rfl rfl)) ?_
        -- guard t77
        refine lexGB rfl rfl rfl rfl rfl rfl (fun h77 => ?_) (fun h77 => ?_)
        · skip
          simp at h77
        · skip
          refine lexQ rfl rfl rfl rfl (fun H hM => (yMove (v := .slice _ _ _) rfl rfl)) ?_
          refine lexQ rfl rfl rfl rfl (fun H hM => (yIdxP1 rfl Try.underlying31 Try.sizeOf22 rfl rfl ex rfl (by simp))) ?_
          refine lexQ rfl rfl rfl rfl (fun H hM => (yLoad rfl Try.underlying22 rfl rfl (hM.ext.cell hx))) ?_
          refine lexQ rfl rfl rfl rfl (fun H hM => (yBytesStr rfl Try.underlying22 Try.underlying9 Try.underlying5 rfl rfl (d1.ext hM.ext))) ?_
          refine lexQ rfl rfl rfl rfl (fun H hM => (yMove (v := .slice _ _ _) rfl rfl)) ?_
          refine lexQ rfl rfl rfl rfl (fun H hM => (yMove (v := .int _ _) rfl rfl)) ?_
          refine lexQ rfl rfl rfl rfl (fun H hM => (ySub rfl rfl rfl (by unfold In64; omega))) ?_
          refine lexQ rfl rfl rfl rfl (fun H hM => (yIdxP rfl Try.underlying49 Try.sizeOf53 rfl rfl eq (by omega) hi)) ?_
          refine lexQ rfl rfl rfl rfl (fun H hM => (yFieldAddr rfl Try.underlying53 rfl Try.sizeOf22 rfl rfl)) ?_
          refine lexQ rfl rfl rfl rfl (fun H hM => (yLoad rfl Try.underlying22 rfl rfl (hM.ext.cell (hq 1 _ rfl)))) ?_
          refine lexQ rfl rfl rfl rfl (fun H hM => (yBytesStr rfl Try.underlying22 Try.underlying9 Try.underlying5 rfl rfl (rd1.ext hM.ext))) ?_
          refine lexQ rfl rfl rfl rfl (fun H hM => (yNeqS rfl rfl rfl)) ?_
          refine lexQ rfl rfl rfl rfl (fun H hM => (yPickF (v := .bool _) rfl rfl rfl)) ?_
          -- guard t91
          refine lexGB rfl rfl rfl rfl rfl rfl (fun h91 => ?_) (fun h91 => ?_)
          · skip
            simp at h91
          · skip
            refine lexQ rfl rfl rfl rfl (fun H hM => (yMove (v := .slice _ _ _) rfl rfl)) ?_
            refine lexQ rfl rfl rfl rfl (fun H hM => (yIdxP1 rfl Try.underlying31 Try.sizeOf22 rfl rfl ey rfl (by simp))) ?_
            refine lexQ rfl rfl rfl rfl (fun H hM => (yLoad rfl Try.underlying22 rfl rfl (hM.ext.cell hy))) ?_
            refine lexQ rfl rfl rfl rfl (fun H hM => (yBytesStr rfl Try.underlying22 Try.underlying9 Try.underlying5 rfl rfl (d2.ext hM.ext))) ?_
            refine lexQ rfl rfl rfl rfl (fun H hM => (yMove (v := .slice _ _ _) rfl rfl)) ?_
            refine lexQ rfl rfl rfl rfl (fun H hM => (yMove (v := .int _ _) rfl rfl)) ?_
            refine lexQ rfl rfl rfl rfl (fun H hM => (yIdxP rfl Try.underlying49 Try.sizeOf53 rfl rfl eq2 rfl hi1)) ?_
            refine lexQ rfl rfl rfl rfl (fun H hM => (yFieldAddr rfl Try.underlying53 rfl Try.sizeOf22 rfl rfl)) ?_
            refine lexQ rfl rfl rfl rfl (fun H hM => (yLoad rfl Try.underlying22 rfl rfl (hM.ext.cell (hq2 1 _ rfl)))) ?_
            refine lexQ rfl rfl rfl rfl (fun H hM => (yBytesStr rfl Try.underlying22 Try.underlying9 Try.underlying5 rfl rfl (rd2.ext hM.ext))) ?_
            -- tail
            refine lexNil0 rfl (fun hM => ?_)
            refine seqQ rfl rfl (yNeqS rfl rfl rfl) ?_
            refine seqQ rfl rfl (yPickF (v := .bool _) rfl rfl rfl) ?_
            refine seqNil ?_
            refine hF27 _ _ ?_; clear hF27
            -- if t103
            refine wpCond rfl (fun h103 => ?_) (fun h103 => ?_)
            · skip
              simp at h103
            · skip
              refine wpSkip ?_
              refine hF26 _ _ ?_; clear hF26
              refine wpSeq fun F28 hF28 => ?_
              refine wpRegion ?_
              refine seqQ rfl rfl (yLoadB h8' rfl Try.underlying30 rfl Try.sizeOf30 rfl) ?_
              -- e slot None: store T30 t3 t104
              refine seqE0 rfl rfl (stepStoreB rfl (by kernel_rfl) rfl rfl rfl h3 rfl ?_)
              intro Hl h3' hKl
              replace hE := hE.mine hKl (by simp; omega)
              replace r4 := (r4.keep hKl (by simp; omega)).rd
              refine seqNil ?_
              refine hF28 _ _ ?_; clear hF28
              refine wpExit ?_
              refine hF12 _ _ ?_; clear hF12
              refine wpRegion ?_
              refine seqQ rfl rfl (yMove (v := .int _ _) rfl rfl) ?_
              refine seqQ rfl rfl (yAdd rfl rfl rfl (by unfold In64; omega)) ?_
              refine seqQ rfl rfl (yAssign (v := .int _ _) rfl rfl) ?_
              refine seqNil ?_
              -- end loop
              exact loopEnd (s + 2) (by repeat (first | (with_reducible exact Agree.refl _ _) | refine Agree.upd ?_ rfl | refine Agree.over ?_ rfl)) (by omega) ⟨rfl, trivial⟩ ⟨by omega, hE, L4, n + 1, s + 2, h3', r4, e4, by omega, rfl⟩
      · skip
        have nx := next_one (n := n) hd1
        refine wpSkip ?_
        refine hF17 _ _ ?_; clear hF17
        refine wpSeq fun F29 hF29 => ?_
        refine wpRegion ?_
        refine seqQ rfl rfl (yLoadB h3 rfl Try.underlying30 rfl Try.sizeOf30 rfl) ?_
        -- e slot 107: call F11<farandole/link.Tick> t106
        refine seqE rfl rfl (stepCall rfl Try.call11 rfl ?_)
        have hc := tick_c L2 H6 r2 (nx.sm e2)
        rw [e2, plain_tick nx (by omega) (by omega)] at hc
        dsimp only [List.map] at hc
        refine hc.mono ?_
        rintro v Hg ⟨L4, VA, vc, bs, rfl, e4, b4, r4, p4, xg⟩
        obtain ⟨A1, c1, rfl⟩ := one_bh b4
        refine seqQ rfl rfl (yMove (v := .tuple _) rfl rfl) ?_
        refine seqQ rfl rfl (yExtract (v := .agg _) rfl rfl rfl) ?_
        refine seqQ rfl rfl (yExtract (v := .slice _ _ _) rfl rfl rfl) ?_
        refine seqN rfl rfl (nAlloc rfl Try.zeroValue30 rfl) (fun g10 H10 hx10 hB10 hg10 hl10 => ?_)
        -- e slot None: store T30 t10 t108
        refine seqE0 rfl rfl (stepStoreB rfl (by kernel_rfl) rfl rfl rfl hB10 rfl ?_)
        intro Hh h10' hKh
        have xh := (hx10.mine hKh (by simp; omega))
        replace hE := (hE.trans xg).trans xh
        replace h3 := (h3.ext xg).ext xh
        replace r4 := r4.ext xh
        replace p4 := p4.ext xh
        have zg := xg.size
        clear hB10 hx10 hKh xh xg hc r2 e2 h6
        have d1 := p4.data _ (List.mem_cons_self ..)
        have rd1 := (hdat _ (List.getElem_mem hi)).ext hE
        obtain ⟨q, eq, hq⟩ := (hA.ext hE).at hi
        obtain ⟨x, ex, hx⟩ := p4.rd.at1 (k := 0) (by simp)
        refine seqQ rfl rfl (yAssign (v := .slice _ _ _) rfl rfl) ?_
        refine seqNil ?_
        refine hF29 _ _ ?_; clear hF29
        refine wpSeq fun F30 hF30 => ?_
        refine wpSeq fun F31 hF31 => ?_
        refine wpRegionD Try_mixed [.q, .q, .q, .q, .q, .q, .q, .q, .q, .q, .q, .q, .q, .q, .q, .q] 14 [0, 1, 3, 7, 15, 31, 63, 127, 15, 15, 783, 1807, 3855, 7951, 16383, 32767] [] (by kernel_rfl) _ rfl [0, 1, 2, 3, 4, 5, 6, 7, 8, 9, 10, 11, 12, 13] rfl (by simp) ?_
        refine lexQ rfl rfl rfl rfl (fun H hM => (yMove (v := .slice _ _ _) rfl rfl)) ?_
        refine lexQ rfl rfl rfl rfl (fun H hM => (yLen rfl Try.underlying31 rfl)) ?_
        refine lexQ rfl rfl rfl rfl (fun H hM => (yNeq rfl rfl rfl)) ?_
        -- guard t113
        refine lexGB rfl rfl rfl rfl rfl rfl (fun h113 => ?_) (fun h113 => ?_)
        · skip
          simp at h113
        · skip
          refine lexQ rfl rfl rfl rfl (fun H hM => (yMove (v := .slice _ _ _) rfl rfl)) ?_
          refine lexQ rfl rfl rfl rfl (fun H hM => (yIdxP1 rfl Try.underlying31 Try.sizeOf22 rfl rfl ex rfl (by simp))) ?_
          refine lexQ rfl rfl rfl rfl (fun H hM => (yLoad rfl Try.underlying22 rfl rfl (hM.ext.cell hx))) ?_
          refine lexQ rfl rfl rfl rfl (fun H hM => (yBytesStr rfl Try.underlying22 Try.underlying9 Try.underlying5 rfl rfl (d1.ext hM.ext))) ?_
          refine lexQ rfl rfl rfl rfl (fun H hM => (yMove (v := .slice _ _ _) rfl rfl)) ?_
          refine lexQ rfl rfl rfl rfl (fun H hM => (yMove (v := .int _ _) rfl rfl)) ?_
          refine lexQ rfl rfl rfl rfl (fun H hM => (yIdxP rfl Try.underlying49 Try.sizeOf53 rfl rfl eq rfl hi)) ?_
          refine lexQ rfl rfl rfl rfl (fun H hM => (yFieldAddr rfl Try.underlying53 rfl Try.sizeOf22 rfl rfl)) ?_
          refine lexQ rfl rfl rfl rfl (fun H hM => (yLoad rfl Try.underlying22 rfl rfl (hM.ext.cell (hq 1 _ rfl)))) ?_
          refine lexQ rfl rfl rfl rfl (fun H hM => (yBytesStr rfl Try.underlying22 Try.underlying9 Try.underlying5 rfl rfl (rd1.ext hM.ext))) ?_
          -- tail
          refine lexNil0 rfl (fun hM => ?_)
          refine seqQ rfl rfl (yNeqS rfl rfl rfl) ?_
          refine seqQ rfl rfl (yPickF (v := .bool _) rfl rfl rfl) ?_
          refine seqNil ?_
          refine hF31 _ _ ?_; clear hF31
          -- if t125
          refine wpCond rfl (fun h125 => ?_) (fun h125 => ?_)
          · skip
            simp at h125
          · skip
            refine wpSkip ?_
            refine hF30 _ _ ?_; clear hF30
            refine wpRegion ?_
            refine seqQ rfl rfl (yLoadB h10' rfl Try.underlying30 rfl Try.sizeOf30 rfl) ?_
            -- e slot None: store T30 t3 t126
            refine seqE0 rfl rfl (stepStoreB rfl (by kernel_rfl) rfl rfl rfl h3 rfl ?_)
            intro Hl h3' hKl
            replace hE := hE.mine hKl (by simp; omega)
            replace r4 := (r4.keep hKl (by simp; omega)).rd
            refine seqNil ?_
            refine hF12 _ _ ?_; clear hF12
            refine wpRegion ?_
            refine seqQ rfl rfl (yMove (v := .int _ _) rfl rfl) ?_
            refine seqQ rfl rfl (yAdd rfl rfl rfl (by unfold In64; omega)) ?_
            refine seqQ rfl rfl (yAssign (v := .int _ _) rfl rfl) ?_
            refine seqNil ?_
            -- end loop
            exact loopEnd (s + 1) (by repeat (first | (with_reducible exact Agree.refl _ _) | refine Agree.upd ?_ rfl | refine Agree.over ?_ rfl)) (by omega) ⟨rfl, trivial⟩ ⟨by omega, hE, L4, n + 1, s + 1, h3', r4, e4, by omega, rfl⟩
    · skip
      refine wpExit ?_
      refine hF8 _ _ ?_; clear hF8
      refine wpSeq fun F32 hF32 => ?_
      refine wpRegion ?_
      refine seqQ rfl rfl (yLoadB h3 rfl Try.underlying30 rfl Try.sizeOf30 rfl) ?_
      -- e slot 128: call F26<farandole/link.Idle> t127
      refine seqE rfl rfl (stepCall rfl Try.call26 rfl ?_)
      refine (idle_c L Hi).mono ?_
      rintro v Hj ⟨rfl, xj⟩
      have hempty : L.fly.length = 0 := by rw [← fly_len, e]; rfl
      rw [decide_eq_true hempty]
      refine seqQ rfl rfl (yAssign (v := .bool _) rfl rfl) ?_
      refine seqNil ?_
      refine hF32 _ _ ?_; clear hF32
      -- ret
      refine wpRet (fin1 (v := .bool _) rfl rfl ?_)
      exact ⟨rfl, hE.trans xj⟩
set_option maxRecDepth 100000 in
set_option maxRecDepth 100000 in
theorem linkPlain_lifted (os : Os) (started : os.Started) (H : Type) (enc : TypeId × Value → H) :
    ReturnsInHanded {} Try.checked os 6 .any (Rows.linkPlainSpec.pre6 enc Try.prog Try.f6 Rows.linkPlainRow.domain false) (Rows.linkPlainSpec.post enc Try.prog Try.f6 false true false false) := by
  refine law_lifted started Rows.linkPlainSpec rfl (by kernel_rfl) Try.func6 rfl
    (fun ds h => by match ds, h with | [_], _ => rfl) (of_decide_eq_true (by kernel_rfl))
    (ChangeSpec.witness6 (enc := enc) (C := Try.checked) false ⟨#[], #[.slice none 0 0], []⟩ 8 (by kernel_rfl) (by kernel_rfl) (by kernel_rfl) (by kernel_rfl)) ?_
  intro W base args ds p hval hA
  rw [Try.params6] at hA hval
  obtain ⟨v0, d0, rfl, rfl, h0⟩ := trodAll_one hA
  have g0 := hval 0 _ v0 rfl rfl
  obtain ⟨⟨A, ca, l⟩, rfl, kA, k1, k2, k3⟩ := (opn_steps W).one (one_slice Try.underlying49 g0) h0
  exact plain_walk A ca l W.heap kA k1 (by have := Nat.le_trans k2 k3; unfold maxLen at this; exact this)
set_option maxRecDepth 100000 in
theorem linkPlain_holds : Rows.LinkPlainSaid :=
  OpenClaim.holds_of_wide 6 Try.f6 rfl rfl rfl rfl rfl rfl rfl ⟨rfl, rfl, rfl, rfl, rfl⟩ rfl rfl rfl rfl rfl (by kernel_rfl) Try.func6 (by kernel_rfl)
    (of_decide_eq_true (by kernel_rfl)) (by unfold Func.isWrapper; first | (rw [if_pos (by decide +kernel)]; kernel_rfl) | (rw [if_neg (by decide +kernel)]; exact ⟨rfl, rfl⟩))
    (fun os started H enc _ => linkPlain_lifted os started H enc)
end Go.Proofs.Ytckbcfldjniafaa
