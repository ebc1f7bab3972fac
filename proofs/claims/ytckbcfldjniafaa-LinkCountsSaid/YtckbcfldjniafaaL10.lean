/- Package link: the document's New, Send, Tick. -/
import Derived.Test.YtckbcfldjniafaaL9
namespace Go.Proofs.Ytckbcfldjniafaa
open Go.RowKit

set_option maxRecDepth 100000 in
theorem rNewL_c (A : Option Addr) (c : Nat) (p : List UInt8) (H : Heap) (hA : Rd eByte H A p) (hl : p.length ≤ 1000000000) :
    CallsH Try.prog 28 [.slice A p.length c] H fun v H' => ∃ L : LH, v = .tuple #[.agg (lkC L).toArray, .int .i64 (newL p).1] ∧ L.lk = (newL p).2 ∧ LkRd H' L ∧ Ext H H' := by
  refine callsH_of Try.func28 rfl Try.ntmps28 (Nat.le_of_ble_eq_true rfl) ?_
  refine wpSeq fun F1 hF1 => ?_
  refine wpRegion ?_
  refine seqN rfl rfl (nAlloc rfl Try.zeroValue25 rfl) (fun g2 H2 hx2 hB2 hg2 hl2 => ?_)
  refine seqQ rfl rfl (yAssign (v := .int _ _) rfl rfl) ?_
  refine seqNil ?_
  refine hF1 _ _ ?_; clear hF1
  refine wpSeq fun F2 hF2 => ?_
  refine wpSeq fun F3 hF3 => ?_
  refine wpRegion ?_
  refine seqQ rfl rfl (yMove (v := .slice _ _ _) rfl rfl) ?_
  refine seqQ rfl rfl (yLen rfl Try.underlying22 rfl) ?_
  refine seqQ rfl rfl (yGtr rfl rfl rfl) ?_
  refine seqNil ?_
  refine hF3 _ _ ?_; clear hF3
  -- if t6
  refine wpIf rfl (fun h2 => ?_) (fun h2 => ?_)
  · skip
    have e : newL p = (6, lk0) := if_pos (by omega)
    refine wpSeq fun F4 hF4 => ?_
    refine wpRegion ?_
    refine seqQ rfl rfl (yBuild (pl := [(0, 1), (1, 1), (2, 1), (3, 1)]) (vs := []) rfl Try.underlying25 Try.zeroValue25 rfl (by unfold Places; kernel_rfl) rfl rfl) ?_
    -- e slot None: store T25 t2 t7
    refine seqE0 rfl rfl (stepStoreB rfl (by kernel_rfl) rfl rfl rfl hB2 rfl ?_)
    intro H3 h3 hK3
    refine seqQ rfl rfl (yAssign (v := .int _ _) rfl rfl) ?_
    refine seqNil ?_
    refine hF4 _ _ ?_; clear hF4
    -- ret
    refine wpRet (finR2 rfl (resC Try.underlying25 rfl (by kernel_rfl) rfl h3) (resT (v := .int _ _) rfl) ?_)
    rw [e]
    exact ⟨lh0, rfl, rfl, lh0_rd _, hx2.mine hK3 (by simp; omega)⟩
  · skip
    have e : newL p = (0, ⟨p, 0, 0, []⟩) := if_neg (by omega)
    refine wpSkip ?_
    refine hF2 _ _ ?_; clear hF2
    refine wpSeq fun F5 hF5 => ?_
    refine wpRegion ?_
    refine seqN rfl rfl (nBuildSlice (vs := []) rfl Try.underlying22 Try.sizeOf5 Try.zeroValue5 rfl rfl rfl rfl) (fun g8 H8 hx8 hB8 hg8 hl8 => ?_)
    refine seqQ rfl rfl (yMove (v := .slice _ _ _) rfl rfl) ?_
    -- e slot 10: builtin append t8 t9 : [22, 22]
    refine seqE rfl rfl (stepApp (c := eByte) (Own.lit (c := eByte) (l := []) (base := H2.size) hB8 hg8 (by simp)) rfl Try.underlying22 elem_eByte rfl (by omega) rfl rfl rfl ((hA.ext hx2).ext hx8) (by simp; omega) hx8.size ?_)
    intro v H3 o3 gr
    rw [List.nil_append] at o3
    have x3 : Ext H2 H3 := gr.ext hx8 (by rintro g e; obtain rfl := Option.some.inj e; exact hg8)
    obtain ⟨A3, c3, rfl, -⟩ := o3.form
    have s3 := x3.size
    have s2 := hx2.size
    refine seqQ rfl rfl (yBuild (pl := [(0, 1), (1, 1), (2, 1), (3, 1)]) (vs := [(0, .slice _ _ _)]) rfl Try.underlying25 Try.zeroValue25 rfl (by unfold Places; kernel_rfl) rfl rfl) ?_
    -- e slot None: store T25 t2 t11
    refine seqE0 rfl rfl (stepStoreB rfl (by kernel_rfl) rfl rfl rfl (hB2.ext x3) rfl ?_)
    intro H4 h4 hK4
    refine seqQ rfl rfl (yAssign (v := .int _ _) rfl rfl) ?_
    refine seqNil ?_
    refine hF5 _ _ ?_; clear hF5
    -- ret
    refine wpRet (finR2 rfl (resC Try.underlying25 rfl (by kernel_rfl) rfl h4) (resT (v := .int _ _) rfl) ?_)
    rw [e]
    refine ⟨⟨A3, c3, p, 0, 0, none, 0, []⟩, rfl, rfl, ⟨(Own.rd o3).2.keep hK4 (fun q e => by have := (o3.lt q.block (by rw [e]; rfl)).1; simp; omega), Rd.nil _ _, (fun x hx => by cases hx), Nat.le_refl _⟩, (hx2.trans x3).mine hK4 (by simp; omega)⟩
set_option maxRecDepth 100000 in
theorem rInsert_c (A : Option Addr) (c : Nat) (l : List FH) (x : FH) (H : Heap) (hA : Rd eFH H A l) (hlc : l.length ≤ c) (hl : l.length ≤ 1000) (hs : ∀ (i j : Nat) (hi : i < l.length) (hj : j < l.length), i ≤ j → l[i].due ≤ l[j].due) :
    CallsH Try.prog 37 [.slice A l.length c, .agg (eFH.F x).toArray] H fun v H' => ∃ (A' : Option Addr) (c' : Nat) (r : List FH), v = .slice A' r.length c' ∧ (∀ M, RdM eFH M H A l → (∀ b ∈ M, b < H.size) → RdM eFH M H' A' r) ∧ r.length ≤ c' ∧ r.map FH.fl = insF (l.map FH.fl) x.fl ∧ (∀ y ∈ r, y ∈ l ∨ y = x) ∧ Ext H H' := by
  refine callsH_of Try.func37 rfl Try.ntmps37 (Nat.le_of_ble_eq_true rfl) ?_
  refine wpSeq fun F1 hF1 => ?_
  refine wpRegion ?_
  refine seqN rfl rfl (nBoxA rfl rfl) (fun g3 H3 hx3 hB3 hg3 hl3 => ?_)
  refine seqQ rfl rfl (yAssign (v := .slice _ _ _) rfl rfl) ?_
  refine seqNil ?_
  refine hF1 _ _ ?_; clear hF1
  refine wpSeq fun F2 hF2 => ?_
  refine wpSeq fun F3 hF3 => ?_
  refine wpRegion ?_
  refine seqQ rfl rfl (yMove (v := .slice _ _ _) rfl rfl) ?_
  refine seqQ rfl rfl (yLen rfl Try.underlying23 rfl) ?_
  refine seqQ rfl rfl (yGeq rfl rfl rfl) ?_
  refine seqNil ?_
  refine hF3 _ _ ?_; clear hF3
  -- if t9
  refine wpIf rfl (fun h300 => ?_) (fun h300 => ?_)
  · skip
    refine wpSeq fun F4 hF4 => ?_
    refine wpRegion ?_
    refine seqQ rfl rfl (yMove (v := .slice _ _ _) rfl rfl) ?_
    refine seqQ rfl rfl (yAssign (v := .slice _ _ _) rfl rfl) ?_
    refine seqNil ?_
    refine hF4 _ _ ?_; clear hF4
    -- ret
    refine wpRet (fin1 (v := .slice _ _ _) rfl rfl ?_)
    have e : insF (l.map FH.fl) x.fl = l.map FH.fl := if_pos (by rw [List.length_map]; omega)
    exact ⟨A, c, l, rfl, (fun M hm _ => hm.tr (Tr.of_ext hx3 _)), hlc, e.symm, fun y hy => .inl hy, hx3⟩
  · skip
    have h300 : l.length < 300 := by omega
    have rA := hA.ext hx3
    refine wpSkip ?_
    refine hF2 _ _ ?_; clear hF2
    refine wpSeq fun F5 hF5 => ?_
    refine wpRegion ?_
    refine seqQ rfl rfl (yAssign (v := .slice _ _ _) rfl rfl) ?_
    refine seqNil ?_
    refine hF5 _ _ ?_; clear hF5
    refine wpSeq fun F6 hF6 => ?_
    refine wpRegion ?_
    refine seqQ rfl rfl (yAssign (v := .int _ _) rfl rfl) ?_
    refine seqNil ?_
    refine hF6 _ _ ?_; clear hF6
    refine wpSeq fun F7 hF7 => ?_
    -- loop
    refine wpBlock ?_
    refine wpLoopS [5, 6, 11, 12, 13, 14, 15, 16, 17, 18, 19, 20, 21, 22, 23, 24, 25, 26, 27, 28, 29, 30, 31, 32, 33] (fun z : Nat × Value => [(6, .int .i64 z.1), (5, z.2)]) (fun z H' => z.1 ≤ l.length ∧ Ext H3 H' ∧ (∀ (j : Nat) (hj : j < l.length), j < z.1 → l[j].due ≤ x.due) ∧ Own eFH 63 H' H3.size z.2 (l.take z.1)) (fun z => l.length - z.1) (0, .slice none 0 0) ⟨rfl, rfl, trivial⟩ ⟨Nat.zero_le _, Ext.refl _, fun j hj h => absurd h (by dsimp only; omega), Own.nil _ _⟩ ?_
    rintro ⟨k, v⟩ J Hk ⟨hk, hE, hdue, ow⟩
    dsimp only at hk hdue ow
    obtain ⟨VA, vc, rfl, -⟩ := ow.form
    have h3 := hB3.ext hE
    have sE := hE.size
    have gl3 := hB3.lt
    have hMb : ∀ b ∈ (Value.slice VA (l.take k).length vc).ownBlock.toList, H3.size ≤ b ∧ b < Hk.size := fun b hb => by rw [Option.mem_toList] at hb; exact ow.lt b hb
    refine wpSeq fun F8 hF8 => ?_
    refine wpSeq fun F9 hF9 => ?_
    refine wpRegionD Try_mixed [.q, .q, .q, .q, .q, .q, .q, .q, .q, .q, .q, .q, .q, .q] 12 [0, 0, 2, 7, 15, 31, 31, 127, 255, 511, 31, 1055, 4095, 8191] [] (by kernel_rfl) _ rfl [0, 1, 2, 3, 4, 5, 6, 7, 8, 9, 10, 11] rfl (by simp) ?_
    refine lexQ rfl rfl rfl rfl (fun H hM => (yMove (v := .int _ _) rfl rfl)) ?_
    refine lexQ rfl rfl rfl rfl (fun H hM => (yMove (v := .slice _ _ _) rfl rfl)) ?_
    refine lexQ rfl rfl rfl rfl (fun H hM => (yLen rfl Try.underlying23 rfl)) ?_
    refine lexQ rfl rfl rfl rfl (fun H hM => (yLss rfl rfl rfl)) ?_
    -- guard t15
    refine lexG rfl rfl rfl rfl rfl rfl (fun hpos => ?_) (fun hpos => ?_)
    · skip
      dsimp only at hpos
      have hk : k < l.length := by omega
      obtain ⟨p, ep, hp⟩ := (rA.ext hE).at hk
      refine lexQ rfl rfl rfl rfl (fun H hM => (yMove (v := .slice _ _ _) rfl rfl)) ?_
      refine lexQ rfl rfl rfl rfl (fun H hM => (yMove (v := .int _ _) rfl rfl)) ?_
      refine lexQ rfl rfl rfl rfl (fun H hM => (yIdxP rfl Try.underlying23 Try.sizeOf63 rfl rfl ep rfl hk)) ?_
      refine lexQ rfl rfl rfl rfl (fun H hM => (yFieldAddr rfl Try.underlying63 rfl Try.sizeOf3 rfl rfl)) ?_
      refine lexQ rfl rfl rfl rfl (fun H hM => (yLoad rfl Try.underlying3 rfl rfl (hM.ext.cell (hp 0 _ rfl)))) ?_
      refine lexQ rfl rfl rfl rfl (fun H hM => (yFieldAddr rfl Try.underlying63 rfl Try.sizeOf3 rfl rfl)) ?_
      refine lexQ rfl rfl rfl rfl (fun H hM => (yLoad rfl Try.underlying3 rfl rfl (hM.ext.cell (h3.cell rfl)))) ?_
      -- tail
      refine lexNil0 rfl (fun hM => ?_)
      refine seqQ rfl rfl (yLeq rfl rfl rfl) ?_
      refine seqQ rfl rfl (yPickT (v := .bool _) rfl rfl rfl) ?_
      refine seqNil ?_
      refine hF9 _ _ ?_; clear hF9
      -- if t24
      refine wpIf rfl (fun hdu => ?_) (fun hdu => ?_)
      · skip
        refine wpSkip ?_
        refine hF8 _ _ ?_; clear hF8
        refine wpBlock ?_
        refine wpSeq fun F10 hF10 => ?_
        refine wpRegion ?_
        refine seqQ rfl rfl (yMove (v := .slice _ _ _) rfl rfl) ?_
        refine seqQ rfl rfl (yMove (v := .slice _ _ _) rfl rfl) ?_
        refine seqQ rfl rfl (yMove (v := .int _ _) rfl rfl) ?_
        refine seqQ rfl rfl (yIdxP rfl Try.underlying23 Try.sizeOf63 rfl rfl ep rfl hk) ?_
        refine seqQ rfl rfl (yLoadC (cs := eFH.F l[k]) rfl Try.underlying63 rfl Try.sizeOf63 rfl (fun j u hu => hp j u hu)) ?_
        refine seqN rfl rfl (nBuildSliceN (vs := [.agg _]) rfl Try.underlying23 Try.sizeOf63 Try.zeroValue63 rfl rfl rfl rfl rfl) (fun g30 H30 hx30 hB30 hg30 hl30 => ?_)
        -- e slot 31: builtin append t25 t30 : [23, 23]
        refine seqE rfl rfl (stepApp (c := eFH) (ow.ext hx30) rfl Try.underlying23 elem_eFHr rfl (by omega) rfl rfl rfl (Blk.rd (c := eFH) (l := [l[k]]) hB30) (by simp; omega) (by have := hx30.size; omega) ?_)
        intro v' Ha oa ga
        obtain ⟨VA', vc', rfl, -⟩ := oa.form
        have xa := (hE.trans hx30).mine ga.1 (fun b hb => by have := hMb _ hb; omega)
        refine seqQ rfl rfl (yAssign (v := .slice _ _ _) rfl rfl) ?_
        refine seqNil ?_
        refine hF10 _ _ ?_; clear hF10
        refine wpRegion ?_
        refine seqQ rfl rfl (yMove (v := .int _ _) rfl rfl) ?_
        refine seqQ rfl rfl (yAdd rfl rfl rfl (by unfold In64; omega)) ?_
        refine seqQ rfl rfl (yAssign (v := .int _ _) rfl rfl) ?_
        refine seqNil ?_
        -- end loop
        refine loopEnd (k + 1, _) (by repeat (first | (with_reducible exact Agree.refl _ _) | refine Agree.upd ?_ rfl | refine Agree.over ?_ rfl)) (by dsimp only; omega) ⟨rfl, rfl, trivial⟩ ⟨hk, xa, fun j hj hjk => ?_, ?_⟩
        · by_cases e : j = k
          · subst e
            exact hdu
          · exact hdue j hj (by dsimp only at hjk; omega)
        · dsimp only
          rw [List.take_succ_eq_append_getElem hk]
          exact oa
      · skip
        have hge : ∀ (j : Nat) (hj : j < l.length), k ≤ j → x.due + 1 ≤ l[j].due := fun j hj hjk => by have := hs k j hk hj hjk; omega
        have hk := Nat.le_of_lt hk
        have hfin : (l.take k ++ x :: l.drop k).map FH.fl = insF (l.map FH.fl) x.fl := map_ins rfl (by rw [List.length_map]; omega) x k hk (fun j hj hjk => by have := hdue j hj hjk; omega) (fun j hj hjk => hge j hj hjk)
        have hnm3 : g3 ∉ (Value.slice VA (l.take k).length vc).ownBlock.toList := fun hm => by have := (hMb _ hm).1; omega
        refine wpExit ?_
        refine hF7 _ _ ?_; clear hF7
        refine wpSeq fun F11 hF11 => ?_
        refine wpRegionD Try_mixed [.q, .q, .n, .e, .q, .q, .q, .e, .q] 7 [0, 0, 2, 7, 0, 0, 48, 127, 255] (Value.slice VA (l.take k).length vc).ownBlock.toList (by kernel_rfl) _ rfl [0, 1, 2, 3, 4, 5, 6] rfl (fun b hb => (hMb b hb).2) ?_
        refine lexQ rfl rfl rfl rfl (fun H hM => (yMove (v := .slice _ _ _) rfl rfl)) ?_
        refine lexQ rfl rfl rfl rfl (fun H hM => (yLoadB (h3.keep hM hnm3) rfl Try.underlying63 rfl Try.sizeOf63 rfl)) ?_
        refine lexNB rfl rfl rfl rfl (nBuildSliceN (vs := [.agg _]) rfl Try.underlying23 Try.sizeOf63 Try.zeroValue63 rfl rfl rfl rfl rfl) (fun g36 hg36 hne36 => ?_)
        -- e slot 37: builtin append t34 t36 : [23, 23]
        refine lexE rfl rfl rfl rfl (fun H37 hX37 hM37 hN37 => stepApp (c := eFH) (ow.ext hX37) rfl Try.underlying23 elem_eFHr rfl (by omega) rfl rfl rfl (Blk.rd (c := eFH) (l := [x]) (Made.blk hN37 (.head _) rfl)) (by simp; omega) (by have := hX37.size; omega) ?_)
        intro v1 H1 o1 gr1
        refine lexGrew gr1 (fun g e => by rw [Option.mem_toList]; exact e) (fun b hb => by have := (hMb b hb).2; have := hX37.size; omega) (fun g e => (o1.lt g e).2) ?_
        obtain ⟨V1, c1, rfl, -⟩ := o1.form
        have x1 : Ext H3 H1 := (hE.trans hX37).mine gr1.1 (fun b hb => (hMb _ hb).1)
        refine lexQ rfl rfl rfl rfl (fun H hM => (yMove (v := .slice _ _ _) rfl rfl)) ?_
        refine lexQ rfl rfl rfl rfl (fun H hM => (yMove (v := .int _ _) rfl rfl)) ?_
        refine lexQ rfl rfl rfl rfl (fun H hM => (ySliceL rfl Try.underlying23 Try.sizeOf63 rfl rfl rfl hk)) ?_
        -- tail
        refine lexNil (fun Hf hXf hMf hNf => ?_)
        have xf := x1.trans hXf
        have rdr := ((rA.ext xf).drop (k := k) (cap := c) hlc)
        have hdl : (l.drop k).length = l.length - k := List.length_drop
        -- e slot 41: builtin append t37 t40 : [23, 23]
        refine seqE rfl rfl (stepApp (c := eFH) (o1.ext hXf) rfl Try.underlying23 elem_eFHr rfl (by omega) rfl rfl hdl.symm rdr (by simp; omega) xf.size ?_)
        intro v2 H2 o2 gr2
        obtain ⟨V2, c2, rfl, -⟩ := o2.form
        have x2 : Ext H3 H2 := gr2.ext xf (fun g e => (o1.lt g e).1)
        refine seqQ rfl rfl (yAssign (v := .slice _ _ _) rfl rfl) ?_
        refine seqNil ?_
        refine hF11 _ _ ?_; clear hF11
        -- ret
        refine wpRet (fin1 (v := .slice _ _ _) rfl rfl ?_)
        have er : l.take k ++ [x] ++ l.drop k = l.take k ++ x :: l.drop k := by simp
        rw [er] at o2
        refine ⟨V2, c2, l.take k ++ x :: l.drop k, by rw [er], (fun M _ hMb => (o2.mono (by have := hx3.size; omega : H.size ≤ H3.size)).rdM hMb), ?_, hfin, (fun y hy => ?_), hx3.trans x2⟩
        · obtain ⟨_, _, e, hle, -⟩ := o2.form
          cases e
          exact hle
        · rcases List.mem_append.1 hy with hy | hy
          · exact .inl (List.mem_of_mem_take hy)
          · rcases List.mem_cons.1 hy with rfl | hy
            · exact .inr rfl
            · exact .inl (List.mem_of_mem_drop hy)
    · skip
      dsimp only at hpos
      have hge : ∀ (j : Nat) (hj : j < l.length), k ≤ j → x.due + 1 ≤ l[j].due := fun j hj hjk => by omega
      refine lexU rfl rfl rfl ?_
      refine lexU rfl rfl rfl ?_
      refine lexU rfl rfl rfl ?_
      refine lexU rfl rfl rfl ?_
      refine lexU rfl rfl rfl ?_
      refine lexU rfl rfl rfl ?_
      refine lexU rfl rfl rfl ?_
      -- tail
      refine lexNil0 rfl (fun hM => ?_)
      refine seqU rfl rfl ?_
      refine seqQ rfl rfl (yPickF (v := .bool _) rfl rfl rfl) ?_
      refine seqNil ?_
      refine hF9 _ _ ?_; clear hF9
      -- if t24
      refine wpF rfl ?_
      have hfin : (l.take k ++ x :: l.drop k).map FH.fl = insF (l.map FH.fl) x.fl := map_ins rfl (by rw [List.length_map]; omega) x k hk (fun j hj hjk => by have := hdue j hj hjk; omega) (fun j hj hjk => hge j hj hjk)
      have hnm3 : g3 ∉ (Value.slice VA (l.take k).length vc).ownBlock.toList := fun hm => by have := (hMb _ hm).1; omega
      refine wpExit ?_
      refine hF7 _ _ ?_; clear hF7
      refine wpSeq fun F12 hF12 => ?_
      refine wpRegionD Try_mixed [.q, .q, .n, .e, .q, .q, .q, .e, .q] 7 [0, 0, 2, 7, 0, 0, 48, 127, 255] (Value.slice VA (l.take k).length vc).ownBlock.toList (by kernel_rfl) _ rfl [0, 1, 2, 3, 4, 5, 6] rfl (fun b hb => (hMb b hb).2) ?_
      refine lexQ rfl rfl rfl rfl (fun H hM => (yMove (v := .slice _ _ _) rfl rfl)) ?_
      refine lexQ rfl rfl rfl rfl (fun H hM => (yLoadB (h3.keep hM hnm3) rfl Try.underlying63 rfl Try.sizeOf63 rfl)) ?_
      refine lexNB rfl rfl rfl rfl (nBuildSliceN (vs := [.agg _]) rfl Try.underlying23 Try.sizeOf63 Try.zeroValue63 rfl rfl rfl rfl rfl) (fun g36 hg36 hne36 => ?_)
      -- e slot 37: builtin append t34 t36 : [23, 23]
      refine lexE rfl rfl rfl rfl (fun H37 hX37 hM37 hN37 => stepApp (c := eFH) (ow.ext hX37) rfl Try.underlying23 elem_eFHr rfl (by omega) rfl rfl rfl (Blk.rd (c := eFH) (l := [x]) (Made.blk hN37 (.head _) rfl)) (by simp; omega) (by have := hX37.size; omega) ?_)
      intro v1 H1 o1 gr1
      refine lexGrew gr1 (fun g e => by rw [Option.mem_toList]; exact e) (fun b hb => by have := (hMb b hb).2; have := hX37.size; omega) (fun g e => (o1.lt g e).2) ?_
      obtain ⟨V1, c1, rfl, -⟩ := o1.form
      have x1 : Ext H3 H1 := (hE.trans hX37).mine gr1.1 (fun b hb => (hMb _ hb).1)
      refine lexQ rfl rfl rfl rfl (fun H hM => (yMove (v := .slice _ _ _) rfl rfl)) ?_
      refine lexQ rfl rfl rfl rfl (fun H hM => (yMove (v := .int _ _) rfl rfl)) ?_
      refine lexQ rfl rfl rfl rfl (fun H hM => (ySliceL rfl Try.underlying23 Try.sizeOf63 rfl rfl rfl hk)) ?_
      -- tail
      refine lexNil (fun Hf hXf hMf hNf => ?_)
      have xf := x1.trans hXf
      have rdr := ((rA.ext xf).drop (k := k) (cap := c) hlc)
      have hdl : (l.drop k).length = l.length - k := List.length_drop
      -- e slot 41: builtin append t37 t40 : [23, 23]
      refine seqE rfl rfl (stepApp (c := eFH) (o1.ext hXf) rfl Try.underlying23 elem_eFHr rfl (by omega) rfl rfl hdl.symm rdr (by simp; omega) xf.size ?_)
      intro v2 H2 o2 gr2
      obtain ⟨V2, c2, rfl, -⟩ := o2.form
      have x2 : Ext H3 H2 := gr2.ext xf (fun g e => (o1.lt g e).1)
      refine seqQ rfl rfl (yAssign (v := .slice _ _ _) rfl rfl) ?_
      refine seqNil ?_
      refine hF12 _ _ ?_; clear hF12
      -- ret
      refine wpRet (fin1 (v := .slice _ _ _) rfl rfl ?_)
      have er : l.take k ++ [x] ++ l.drop k = l.take k ++ x :: l.drop k := by simp
      rw [er] at o2
      refine ⟨V2, c2, l.take k ++ x :: l.drop k, by rw [er], (fun M _ hMb => (o2.mono (by have := hx3.size; omega : H.size ≤ H3.size)).rdM hMb), ?_, hfin, (fun y hy => ?_), hx3.trans x2⟩
      · obtain ⟨_, _, e, hle, -⟩ := o2.form
        cases e
        exact hle
      · rcases List.mem_append.1 hy with hy | hy
        · exact .inl (List.mem_of_mem_take hy)
        · rcases List.mem_cons.1 hy with rfl | hy
          · exact .inr rfl
          · exact .inl (List.mem_of_mem_drop hy)
/-- A link that can be read while the blocks of M turn. -/
structure LkM (M : List Nat) (H : Heap) (l : LH) : Prop where
  pat : RdM eByte M H l.PA l.pat
  fly : RdM eFH M H l.FA l.fly
  data : ∀ x ∈ l.fly, RdM eByte M H x.A x.data
  fcap : l.fly.length ≤ l.fc
set_option maxRecDepth 100000 in
theorem LkM.tr {M M' : List Nat} {H H' : Heap} {l : LH} (h : LkM M H l) (t : Tr M H M' H') : LkM M' H' l := ⟨h.pat.tr t, h.fly.tr t, fun x hx => (h.data x hx).tr t, h.fcap⟩
set_option maxRecDepth 100000 in
theorem LkM.rd {M : List Nat} {H : Heap} {l : LH} (h : LkM M H l) : LkRd H l := ⟨h.pat.rd, h.fly.rd, fun x hx => (h.data x hx).rd, h.fcap⟩
set_option maxRecDepth 100000 in
theorem LkRd.m {H H' : Heap} {M : List Nat} {l : LH} (h : LkRd H l) (hx : Ext H H') (hM : ∀ b ∈ M, H.size ≤ b) : LkM M H' l := ⟨RdM.old h.pat hx hM, RdM.old h.fly hx hM, fun x hm => RdM.old (h.data x hm) hx hM, h.fcap⟩
set_option maxRecDepth 100000 in
theorem rSend_c (l : LH) (A : Option Addr) (c : Nat) (d : List UInt8) (H : Heap) (h : LkRd H l) (hs : LkSm l) (hA : Rd eByte H A d) (hd : d.length ≤ 100000) :
    CallsH Try.prog 27 [.agg (lkC l).toArray, .slice A d.length c] H fun v H' => ∃ L : LH, v = .tuple #[.agg (lkC L).toArray, .int .i64 (sendL l.lk d).1] ∧ L.lk = (sendL l.lk d).2 ∧ LkRd H' L ∧ Ext H H' := by
  refine callsH_of Try.func27 rfl Try.ntmps27 (Nat.le_of_ble_eq_true rfl) ?_
  refine wpSeq fun F1 hF1 => ?_
  refine wpRegion ?_
  refine seqN rfl rfl (nBoxA rfl rfl) (fun g2 H2 hx2 hB2 hg2 hl2 => ?_)
  refine seqN rfl rfl (nAlloc rfl Try.zeroValue25 rfl) (fun g4 H4 hx4 hB4 hg4 hl4 => ?_)
  refine seqQ rfl rfl (yAssign (v := .int _ _) rfl rfl) ?_
  refine seqNil ?_
  refine hF1 _ _ ?_; clear hF1
  refine wpSeq fun F2 hF2 => ?_
  refine wpSeq fun F3 hF3 => ?_
  -- region 1
  have hE := hx2.trans hx4
  have s2 := hx2.size
  have s4 := hx4.size
  have h2 := hB2.ext hx4
  have h4 := hB4
  have gl2 := h2.lt
  have gl4 := h4.lt
  have hm := h.m (M := [g2, g4]) hE (by simp; omega)
  clear hx2 hx4 hB2 hB4
  refine wpRegion ?_
  refine seqQ rfl rfl (yLoadB h2 rfl Try.underlying25 rfl Try.sizeOf25 rfl) ?_
  -- e slot 10: call F19<farandole/farandoleref45.Valid> t9
  refine seqE rfl rfl (stepCall rfl Try.call19 rfl ?_)
  refine (rValidL_c l H4 (h.ext hE) hs).mono ?_
  rintro v H5 ⟨rfl, x5⟩
  replace h2 := h2.ext x5
  replace h4 := h4.ext x5
  have s5 := x5.size
  replace hE := hE.trans x5
  replace hm := hm.tr (Tr.of_ext x5 _)
  clear x5
  by_cases hbad : ¬ ValidL l.lk ∨ l.lk.sent = 1099511627776
  · skip
    have hend : ∀ H6, Keep [g4] H5 H6 → Ext H H6 := fun H6 hK => hE.mine hK (by simp; omega)
    by_cases hv : ValidL l.lk
    · skip
      rw [decide_eq_true hv]
      have hsent : l.sent = 1099511627776 := hbad.resolve_left (fun hn => hn hv)
      refine seqQ rfl rfl (yNot rfl rfl) ?_
      refine seqQ rfl rfl (yMove (v := .bool false) rfl rfl) ?_
      refine seqQ rfl rfl (yFieldAddr rfl Try.underlying25 rfl Try.sizeOf3 rfl rfl) ?_
      refine seqQ rfl rfl (yLoad rfl Try.underlying3 rfl rfl (h2.cell rfl)) ?_
      refine seqQ rfl rfl (yEql rfl rfl rfl) ?_
      refine seqQ rfl rfl (yPickF (v := .bool _) rfl rfl rfl) ?_
      refine seqNil ?_
      refine hF3 _ _ ?_; clear hF3
      -- if t16
      rw [decide_eq_true hsent]
      refine wpT rfl ?_
      refine wpSeq fun F4 hF4 => ?_
      refine wpRegion ?_
      refine seqQ rfl rfl (yBuild (pl := [(0, 1), (1, 1), (2, 1), (3, 1)]) (vs := []) rfl Try.underlying25 Try.zeroValue25 rfl (by unfold Places; kernel_rfl) rfl rfl) ?_
      -- e slot None: store T25 t4 t17
      refine seqE0 rfl rfl (stepStoreB rfl (by kernel_rfl) rfl rfl rfl h4 rfl ?_)
      intro H6 h6 hK6
      refine seqQ rfl rfl (yAssign (v := .int _ _) rfl rfl) ?_
      refine seqNil ?_
      refine hF4 _ _ ?_; clear hF4
      -- ret
      refine wpRet (finR2 rfl (resC Try.underlying25 rfl (by kernel_rfl) rfl h6) (resT (v := .int _ _) rfl) ?_)
      rw [sendL_bad hbad]
      exact ⟨lh0, rfl, rfl, lh0_rd _, hend _ hK6⟩
    · skip
      rw [decide_eq_false hv]
      refine seqQ rfl rfl (yNot rfl rfl) ?_
      refine seqQ rfl rfl (yMove (v := .bool true) rfl rfl) ?_
      refine seqU rfl rfl ?_
      refine seqU rfl rfl ?_
      refine seqU rfl rfl ?_
      refine seqQ rfl rfl (yPickT (v := .bool _) rfl rfl rfl) ?_
      refine seqNil ?_
      refine hF3 _ _ ?_; clear hF3
      -- if t16
      refine wpT rfl ?_
      refine wpSeq fun F5 hF5 => ?_
      refine wpRegion ?_
      refine seqQ rfl rfl (yBuild (pl := [(0, 1), (1, 1), (2, 1), (3, 1)]) (vs := []) rfl Try.underlying25 Try.zeroValue25 rfl (by unfold Places; kernel_rfl) rfl rfl) ?_
      -- e slot None: store T25 t4 t17
      refine seqE0 rfl rfl (stepStoreB rfl (by kernel_rfl) rfl rfl rfl h4 rfl ?_)
      intro H6 h6 hK6
      refine seqQ rfl rfl (yAssign (v := .int _ _) rfl rfl) ?_
      refine seqNil ?_
      refine hF5 _ _ ?_; clear hF5
      -- ret
      refine wpRet (finR2 rfl (resC Try.underlying25 rfl (by kernel_rfl) rfl h6) (resT (v := .int _ _) rfl) ?_)
      rw [sendL_bad hbad]
      exact ⟨lh0, rfl, rfl, lh0_rd _, hend _ hK6⟩
  · skip
    have hv : ValidL l.lk := Classical.byContradiction fun hn => hbad (.inl hn)
    have hsent : ¬ l.sent = 1099511627776 := fun e => hbad (.inr e)
    rw [decide_eq_true hv]
    refine seqQ rfl rfl (yNot rfl rfl) ?_
    refine seqQ rfl rfl (yMove (v := .bool false) rfl rfl) ?_
    refine seqQ rfl rfl (yFieldAddr rfl Try.underlying25 rfl Try.sizeOf3 rfl rfl) ?_
    refine seqQ rfl rfl (yLoad rfl Try.underlying3 rfl rfl (h2.cell rfl)) ?_
    refine seqQ rfl rfl (yEql rfl rfl rfl) ?_
    refine seqQ rfl rfl (yPickF (v := .bool _) rfl rfl rfl) ?_
    refine seqNil ?_
    refine hF3 _ _ ?_; clear hF3
    -- if t16
    rw [decide_eq_false hsent]
    refine wpF rfl ?_
    refine wpSkip ?_
    refine hF2 _ _ ?_; clear hF2
    refine wpSeq fun F6 hF6 => ?_
    refine wpSeq fun F7 hF7 => ?_
    refine wpRegion ?_
    refine seqQ rfl rfl (yMove (v := .slice _ _ _) rfl rfl) ?_
    refine seqQ rfl rfl (yLen rfl Try.underlying22 rfl) ?_
    refine seqQ rfl rfl (yGtr rfl rfl rfl) ?_
    refine seqNil ?_
    refine hF7 _ _ ?_; clear hF7
    -- if t20
    refine wpIf rfl (fun hlong => ?_) (fun hlong => ?_)
    · skip
      refine wpSeq fun F8 hF8 => ?_
      refine wpRegion ?_
      refine seqQ rfl rfl (yBuild (pl := [(0, 1), (1, 1), (2, 1), (3, 1)]) (vs := []) rfl Try.underlying25 Try.zeroValue25 rfl (by unfold Places; kernel_rfl) rfl rfl) ?_
      -- e slot None: store T25 t4 t21
      refine seqE0 rfl rfl (stepStoreB rfl (by kernel_rfl) rfl rfl rfl h4 rfl ?_)
      intro H6 h6 hK6
      refine seqQ rfl rfl (yAssign (v := .int _ _) rfl rfl) ?_
      refine seqNil ?_
      refine hF8 _ _ ?_; clear hF8
      -- ret
      refine wpRet (finR2 rfl (resC Try.underlying25 rfl (by kernel_rfl) rfl h6) (resT (v := .int _ _) rfl) ?_)
      rw [sendL_long hbad (by omega)]
      exact ⟨lh0, rfl, rfl, lh0_rd _, hE.mine hK6 (by simp; omega)⟩
    · skip
      obtain ⟨v1, ⟨v2, v3⟩, ⟨v4, v5⟩, -, -⟩ := id hv
      have v1 : l.pat.length ≤ 200 := v1
      have v2 : 0 ≤ l.now := v2
      have v3 : l.now ≤ 1099511627776 := v3
      have v4 : 0 ≤ l.sent := v4
      have v5 : l.sent ≤ 1099511627776 := v5
      have hgood := hv.good
      obtain ⟨p, hp⟩ : ∃ p, p = fate l.lk := ⟨_, rfl⟩
      refine wpSkip ?_
      refine hF6 _ _ ?_; clear hF6
      refine wpSeq fun F9 hF9 => ?_
      refine wpRegion ?_
      refine seqQ rfl rfl (yLoadB h2 rfl Try.underlying25 rfl Try.sizeOf25 rfl) ?_
      -- e slot 23: call F24<farandole/farandoleref45.Fate> t22
      refine seqE rfl rfl (stepCall rfl Try.call24 rfl ?_)
      refine (rFate_c l H5 (h.ext hE) v4 (by omega)).mono ?_
      rintro v H6 ⟨rfl, x6⟩
      rw [← hp]
      replace h2 := h2.ext x6
      replace h4 := h4.ext x6
      have s6 := x6.size
      replace hE := hE.trans x6
      replace hm := hm.tr (Tr.of_ext x6 _)
      clear x6
      refine seqQ rfl rfl (yAssign (v := .int _ _) rfl rfl) ?_
      refine seqNil ?_
      refine hF9 _ _ ?_; clear hF9
      refine wpSeq fun F10 hF10 => ?_
      refine wpRegion ?_
      refine seqQ rfl rfl (yMove (v := .int _ _) rfl rfl) ?_
      -- e slot 25: call F15<farandole/farandoleref45.Delays> t24
      refine seqE rfl rfl (stepCall rfl Try.call15 rfl ?_)
      refine (rDelays_c p H6).mono ?_
      rintro v Ha ⟨oD, xa⟩
      obtain ⟨DA, dc, rfl, -⟩ := oD.form
      have rD : RdM eInt [g2, g4] Ha DA (delays p) := oD.rdM (by simp; omega)
      replace h2 := h2.ext xa
      replace h4 := h4.ext xa
      replace hE := hE.trans xa
      replace hm := hm.tr (Tr.of_ext xa _)
      have hdl := delays_len p
      have harr : (arr p d).length ≤ 1000 := by rw [arr_len]; omega
      clear oD xa
      refine seqQ rfl rfl (yAssign (v := .slice _ _ _) rfl rfl) ?_
      refine seqNil ?_
      refine hF10 _ _ ?_; clear hF10
      refine wpSeq fun F11 hF11 => ?_
      refine wpSeq fun F12 hF12 => ?_
      refine wpRegion ?_
      refine seqQ rfl rfl (yAssign (v := .int _ _) rfl rfl) ?_
      refine seqNil ?_
      refine hF12 _ _ ?_; clear hF12
      -- loop
      refine wpBlock ?_
      refine wpLoopS [8, 26, 27, 28, 29, 30, 31, 32, 33, 34, 35, 36, 37, 38, 39, 40, 41, 42, 43, 44, 45, 46] (fun k : Nat => [(8, .int .i64 k)]) (fun k H' => k ≤ (delays p).length ∧ Ext H H' ∧ Blk H' g4 [.slice none 0 0, .int .i64 0, .int .i64 0, .slice none 0 0] 25 ∧ ∃ l2 : LH, Blk H' g2 (lkC l2) 25 ∧ LkM [g2, g4] H' l2 ∧ RdM eInt [g2, g4] H' DA (delays p) ∧ l2.lk = { l.lk with fly := putAll l.lk.now (arr p d) ((delays p).take k) l.lk.fly }) (fun k => (delays p).length - k) 0 ⟨rfl, trivial⟩ ⟨Nat.zero_le _, hE, h4, l, h2, hm, rD, rfl⟩ ?_
      clear hE h4 h2 hm rD
      rintro k J Hk ⟨hk, hE, h4, l2, h2, hm, rD, hlk⟩
      obtain ⟨q1, q2, q3, q4⟩ : l2.pat = l.pat ∧ l2.now = l.now ∧ l2.sent = l.sent ∧ l2.fly.map FH.fl = putAll l.lk.now (arr p d) ((delays p).take k) l.lk.fly := by
        have h0 := hlk
        unfold LH.lk at h0
        rw [Lk.eq_iff] at h0
        exact h0
      have hg := GoodF.putAll (now := l.lk.now) harr ((delays p).take k) hgood (fun t ht => delays_rng (List.mem_of_mem_take ht))
      have hnw : l.lk.now = l.now := rfl
      rw [← q4] at hg
      have hfl : l2.fly.length ≤ 300 := by have := hg.len; simpa using this
      refine wpSeq fun F13 hF13 => ?_
      refine wpSeq fun F14 hF14 => ?_
      refine wpRegion ?_
      refine seqQ rfl rfl (yMove (v := .int _ _) rfl rfl) ?_
      refine seqQ rfl rfl (yMove (v := .slice _ _ _) rfl rfl) ?_
      refine seqQ rfl rfl (yLen rfl Try.underlying37 rfl) ?_
      refine seqQ rfl rfl (yLss rfl rfl rfl) ?_
      refine seqNil ?_
      refine hF14 _ _ ?_; clear hF14
      -- if t29
      refine wpIf rfl (fun hlt => ?_) (fun hlt => ?_)
      · skip
        have hk : k < (delays p).length := by omega
        have hdk := delays_rng (List.getElem_mem hk)
        obtain ⟨q, eq, hq⟩ := rD.rd.at1 hk
        refine wpSkip ?_
        refine hF13 _ _ ?_; clear hF13
        refine wpSeq fun F15 hF15 => ?_
        refine wpBlock ?_
        refine wpRegionD Try_mixed [.q, .q, .q, .q, .q, .q, .q, .q, .q, .q, .q, .e, .q, .e, .q, .e] 13 [0, 1, 0, 4, 0, 0, 48, 112, 252, 0, 0, 1536, 4092, 8191, 16383, 32767] [] (by kernel_rfl) _ rfl [0, 1, 2, 3, 4, 5, 6, 7, 8, 9, 10, 11, 12] rfl (by simp) ?_
        refine lexQ rfl rfl rfl rfl (fun H hM => (yFieldAddr rfl Try.underlying25 rfl Try.sizeOf23 rfl rfl)) ?_
        refine lexQ rfl rfl rfl rfl (fun H hM => (yLoad rfl Try.underlying23 rfl rfl (hM.ext.cell (h2.cell rfl)))) ?_
        refine lexQ rfl rfl rfl rfl (fun H hM => (yFieldAddr rfl Try.underlying25 rfl Try.sizeOf3 rfl rfl)) ?_
        refine lexQ rfl rfl rfl rfl (fun H hM => (yLoad rfl Try.underlying3 rfl rfl (hM.ext.cell (h2.cell rfl)))) ?_
        refine lexQ rfl rfl rfl rfl (fun H hM => (yMove (v := .slice _ _ _) rfl rfl)) ?_
        refine lexQ rfl rfl rfl rfl (fun H hM => (yMove (v := .int _ _) rfl rfl)) ?_
        refine lexQ rfl rfl rfl rfl (fun H hM => (yIdxP1 rfl Try.underlying37 Try.sizeOf3 rfl rfl eq rfl hk)) ?_
        refine lexQ rfl rfl rfl rfl (fun H hM => (yLoad rfl Try.underlying3 rfl rfl (hM.ext.cell hq))) ?_
        refine lexQ rfl rfl rfl rfl (fun H hM => (yAdd rfl rfl rfl (by unfold In64; rw [q2]; omega))) ?_
        refine lexQ rfl rfl rfl rfl (fun H hM => (yMove (v := .int _ _) rfl rfl)) ?_
        refine lexQ rfl rfl rfl rfl (fun H hM => (yMove (v := .slice _ _ _) rfl rfl)) ?_
        -- e slot 43: call F25<farandole/farandoleref45.Copy> t41 t42
        refine lexX0 rfl rfl rfl rfl rfl (by simp) (fun hM43 => stepCall rfl Try.call25 rfl ?_)
        refine (rCopy_c A c d p Hk (hA.ext hE) (by omega)).mono ?_
        rintro v Hc ⟨oc, xc⟩
        obtain ⟨CA, cc, rfl, -⟩ := oc.form
        refine ⟨xc, fun _ => ?_⟩
        refine lexQ rfl rfl rfl rfl (fun H hM => (yBuild (pl := [(0, 1), (1, 1)]) (vs := [(0, .int _ _), (1, .slice _ _ _)]) rfl Try.underlying63 Try.zeroValue63 rfl (by unfold Places; kernel_rfl) rfl rfl)) ?_
        -- tail
        refine lexNil0 rfl (fun hM => ?_)
        have hkz := hE.size
        have rC : RdM eByte [g2, g4] Hc CA (arr p d) := oc.rdM (fun b hb => by
          rcases (show b = g2 ∨ b = g4 by simpa using hb) with rfl | rfl
          · exact h2.lt
          · exact h4.lt)
        replace h2 := h2.ext xc
        replace h4 := h4.ext xc
        replace hE := hE.trans xc
        replace hm := hm.tr (Tr.of_ext xc _)
        replace rD := rD.tr (Tr.of_ext xc _)
        -- e slot 45: call F37<farandole/farandoleref45.insert> t33 t44
        refine seqE rfl rfl (stepCall rfl Try.call37 rfl ?_)
        refine (rInsert_c l2.FA l2.fc l2.fly ⟨l2.now + (delays p)[k], CA, cc, arr p d⟩ Hc hm.fly.rd hm.fcap (by omega) (map_due rfl hg.srt)).mono ?_
        rintro v Hd ⟨FA', fc', r, rfl, hr1, hr2, hr3, hr4, xd⟩
        have rF := hr1 [g2, g4] hm.fly (fun b hb => by
          rcases (show b = g2 ∨ b = g4 by simpa using hb) with rfl | rfl
          · exact h2.lt
          · exact h4.lt)
        replace h2 := h2.ext xd
        replace h4 := h4.ext xd
        replace hE := hE.trans xd
        replace hm := hm.tr (Tr.of_ext xd _)
        replace rD := rD.tr (Tr.of_ext xd _)
        replace rC := rC.tr (Tr.of_ext xd _)
        have hm2 : LkM [g2, g4] Hd { l2 with FA := FA', fc := fc', fly := r } := ⟨hm.pat, rF, fun x hx => by
          rcases hr4 x hx with hx | rfl
          · exact hm.data x hx
          · exact rC, hr2⟩
        refine seqQ rfl rfl (yFieldAddr rfl Try.underlying25 rfl Try.sizeOf23 rfl rfl) ?_
        -- e slot None: store T23 t46 t45
        refine seqE0 rfl rfl (stepStore rfl Try.sizeOf23 rfl rfl rfl rfl h2 (Nat.le_of_ble_eq_true rfl) ?_)
        intro He h2' hKe
        replace h2' : Blk He g2 (lkC { l2 with FA := FA', fc := fc', fly := r }) 25 := h2'
        have te : Tr [g2, g4] Hd [g2, g4] He := Tr.store hKe (by simp)
        refine seqNil ?_
        refine hF15 _ _ ?_; clear hF15
        refine wpRegion ?_
        refine seqQ rfl rfl (yMove (v := .int _ _) rfl rfl) ?_
        refine seqQ rfl rfl (yAdd rfl rfl rfl (by unfold In64; omega)) ?_
        refine seqQ rfl rfl (yAssign (v := .int _ _) rfl rfl) ?_
        refine seqNil ?_
        -- end loop
        refine loopEnd (k + 1) (by repeat (first | (with_reducible exact Agree.refl _ _) | refine Agree.upd ?_ rfl | refine Agree.over ?_ rfl)) (by omega) ⟨rfl, trivial⟩ ⟨hk, hE.mine hKe (by simp; omega), h4.keep hKe (by simp; omega), _, h2', hm2.tr te, rD.tr te, ?_⟩
        rw [Lk.eq_iff] at hlk ⊢
        refine ⟨hlk.1, hlk.2.1, hlk.2.2.1, ?_⟩
        show r.map FH.fl = putAll l.lk.now (arr p d) ((delays p).take (k + 1)) l.lk.fly
        rw [hr3, q4, putAll_take hk]
        show insF _ (l2.now + (delays p)[k], arr p d) = _
        rw [q2]
        rfl
      · skip
        obtain rfl : k = (delays p).length := by omega
        rw [List.take_length] at hlk
        refine wpExit ?_
        refine hF11 _ _ ?_; clear hF11
        refine wpSeq fun F16 hF16 => ?_
        refine wpRegion ?_
        refine seqQ rfl rfl (yFieldAddr rfl Try.underlying25 rfl Try.sizeOf3 rfl rfl) ?_
        refine seqQ rfl rfl (yLoad rfl Try.underlying3 rfl rfl (h2.cell rfl)) ?_
        refine seqQ rfl rfl (yAdd rfl rfl rfl (by unfold In64; rw [q3]; omega)) ?_
        refine seqQ rfl rfl (yFieldAddr rfl Try.underlying25 rfl Try.sizeOf3 rfl rfl) ?_
        -- e slot None: store T3 t50 t49
        refine seqE0 rfl rfl (stepStore rfl Try.sizeOf3 rfl rfl rfl rfl h2 (Nat.le_of_ble_eq_true rfl) ?_)
        intro H7 h2' hK7
        replace h2' : Blk H7 g2 (lkC { l2 with sent := l2.sent + 1 }) 25 := h2'
        have h47 := h4.keep hK7 (by simp; omega)
        have hE7 := hE.mine hK7 (by simp; omega)
        have hm7 := hm.tr (Tr.store hK7 (by simp))
        refine seqNil ?_
        refine hF16 _ _ ?_; clear hF16
        refine wpSeq fun F17 hF17 => ?_
        refine wpRegion ?_
        refine seqQ rfl rfl (yLoadB h2' rfl Try.underlying25 rfl Try.sizeOf25 rfl) ?_
        -- e slot None: store T25 t4 t51
        refine seqE0 rfl rfl (stepStoreB rfl (by kernel_rfl) rfl rfl rfl h47 rfl ?_)
        intro H8 h48 hK8
        refine seqQ rfl rfl (yAssign (v := .int _ _) rfl rfl) ?_
        refine seqNil ?_
        refine hF17 _ _ ?_; clear hF17
        -- ret
        refine wpRet (finR2 rfl (resC Try.underlying25 rfl (by kernel_rfl) rfl h48) (resT (v := .int _ _) rfl) ?_)
        have hm8 := hm7.tr (Tr.store hK8 (by simp))
        rw [sendL_ok hbad (by omega), ← hp]
        refine ⟨{ l2 with sent := l2.sent + 1 }, rfl, ?_, ⟨hm8.pat.rd, hm8.fly.rd, fun x hx => (hm8.data x hx).rd, hm8.fcap⟩, hE7.mine hK8 (by simp; omega)⟩
        rw [Lk.eq_iff] at hlk ⊢
        exact ⟨hlk.1, hlk.2.1, by show l2.sent + 1 = l.sent + 1; rw [q3], hlk.2.2.2⟩
end Go.Proofs.Ytckbcfldjniafaa
