/- The document's reader: byte strings, texts, values. -/
import Derived.Test.YtbanngdijmglbaaG5
namespace Go.Proofs.Ytbanngdijmglbaa
open Go.RowKit

set_option maxRecDepth 100000 in
theorem RRd.new {H H' : Heap} {g g' : Nat} {B : Option Addr} {cB : Nat} {D : List UInt8} {k k0 : Nat} {f f0 : Bool} {H0 : Heap} (h : RRd H g B cB D k f) (h0 : RRd H0 g B cB D k0 f0) (hK : Keep [g'] H H') (hg : H0.size ≤ g') : RRd H' g B cB D k f := by
  have l := h0.blk.lt
  refine ⟨h.blk.keep hK (by simp; omega), fun hn => ?_, h.le, h.cap, h.few⟩
  obtain ⟨p, e, hm, hc⟩ := h.rd hn
  obtain ⟨q, eq, hq⟩ := h0.rd.rd.lt (List.length_pos_iff.2 hn)
  rw [e] at eq
  obtain rfl := Option.some.inj eq
  exact ⟨p, e, hm, fun j u hu => hK.cell (hc j u hu) (by rw [block_of_add]; simp; omega)⟩
/-- What a method leaves, in one form: the result has this shape also where it failed. -/
def RE {α : Type} (p : List UInt8 → Option (α × List UInt8)) (F : α → Value) (Q : α → Prop) (g : Nat) (B : Option Addr) (cB : Nat) (D : List UInt8) (k : Nat) (f : Bool) (H : Heap) (v : Value) (H' : Heap) : Prop :=
  Keep [g] H H' ∧ ∃ a f' k', v = F a ∧ RRd H' g B cB D k' f' ∧ (f' = false → Q a) ∧ ((f' = true ∧ prs p f D k = none) ∨ (f' = false ∧ prs p f D k = some (a, D.drop k')))
set_option maxRecDepth 100000 in
theorem RQ.int {g : Nat} {B : Option Addr} {cB : Nat} {D : List UInt8} {k : Nat} {f : Bool} {H H' : Heap} {v : Value} (h : RQ rdI VI UI g B cB D k f H v H') : RE rdI (Value.int .i64) P64 g B cB D k f H v H' := by
  obtain ⟨hK, ⟨a, r, k', hp, rfl, h1, rfl, h64⟩ | ⟨hp, ⟨k', h1⟩, z, rfl⟩⟩ := h
  · exact ⟨hK, a, false, k', rfl, h1, fun _ => h64, .inr ⟨rfl, hp⟩⟩
  · exact ⟨hK, z, true, k', rfl, h1, fun h => (by cases h), .inl ⟨rfl, hp⟩⟩
set_option maxRecDepth 100000 in
theorem rBytes01_c (g : Nat) (B : Option Addr) (cB : Nat) (D : List UInt8) (k : Nat) (f : Bool) (most : Int) (H : Heap) (h : RRd H g B cB D k f) (hm : most ≤ 1000000000) :
    CallsH Try.prog 111 [.pointer (some ⟨g, 0, none⟩), .int .i64 most] H fun v H' => RQ (pBytes most) (fun H b v => ∃ A c, v = .slice A b.length c ∧ Rd eByte H A b) (fun _ v => v = .slice none 0 0) g B cB D k f H v H' := by
  have hle := h.le
  have hfew := h.few
  refine callsH_of Try.func111 rfl Try.ntmps111 (Nat.le_of_ble_eq_true rfl) ?_
  refine wpSeq fun F1 hF1 => ?_
  refine wpRegion ?_
  refine seqQ rfl rfl (yAssign (v := .slice _ _ _) rfl rfl) ?_
  refine seqNil ?_
  refine hF1 _ _ ?_; clear hF1
  refine wpSeq fun F2 hF2 => ?_
  refine wpRegion ?_
  refine seqQ rfl rfl (yMove (v := .pointer _) rfl rfl) ?_
  refine seqQ rfl rfl (yNilCheck rfl rfl) ?_
  refine seqQ rfl rfl (yFieldAddr rfl Try.underlying126 rfl Try.sizeOf3 rfl rfl) ?_
  refine seqQ rfl rfl (yLoad rfl Try.underlying3 rfl rfl (h.blk.cell rfl)) ?_
  refine seqQ rfl rfl (yAssign (v := .int _ _) rfl rfl) ?_
  refine seqNil ?_
  refine hF2 _ _ ?_; clear hF2
  refine wpSeq fun F3 hF3 => ?_
  refine wpRegion ?_
  refine seqQ rfl rfl (yMove (v := .pointer _) rfl rfl) ?_
  refine seqQ rfl rfl (yMove (v := .int _ _) rfl rfl) ?_
  -- e slot 13: call F65<(*farandole/farandoleref01.Reader).Bounded> t11 [i:i64:0] t12
  refine seqE rfl rfl (stepCall rfl Try.call65 rfl ?_)
  refine (rBnd01_c g B cB D k f 0 most H h).mono ?_
  rintro v H1 ⟨hK1, ⟨n, r, k', hp, hr, h1, rfl, hn0, hnm⟩ | ⟨hp, ⟨k', h1⟩, rfl⟩⟩
  · skip
    have hf : f = false := by cases f; rfl; cases hp
    subst hf
    rw [prs_f] at hp
    obtain ⟨m, rfl⟩ := Int.eq_ofNat_of_zero_le hn0
    have hle1 := h1.le
    subst hr
    refine seqQ rfl rfl (yAssign (v := .int _ _) rfl rfl) ?_
    refine seqNil ?_
    refine hF3 _ _ ?_; clear hF3
    refine wpSeq fun F4 hF4 => ?_
    refine wpSeq fun F5 hF5 => ?_
    refine wpRegionD Try_mixed [.q, .q, .q, .q, .q, .q, .q, .q, .q, .q, .q, .q, .q, .q, .q, .q, .q, .q] 16 [0, 1, 3, 7, 15, 31, 31, 95, 223, 479, 991, 31, 2079, 6175, 14367, 32735, 65535, 131071] [] (by kernel_rfl) _ rfl [0, 1, 2, 3, 4, 5, 6, 7, 8, 9, 10, 11, 12, 13, 14, 15] rfl (by simp) ?_
    refine lexQ rfl rfl rfl rfl (fun H hM => (yMove (v := .pointer _) rfl rfl)) ?_
    refine lexQ rfl rfl rfl rfl (fun H hM => (yNilCheck rfl rfl)) ?_
    refine lexQ rfl rfl rfl rfl (fun H hM => (yFieldAddr rfl Try.underlying126 rfl Try.sizeOf4 rfl rfl)) ?_
    refine lexQ rfl rfl rfl rfl (fun H hM => (yLoad rfl Try.underlying4 rfl rfl (hM.ext.cell (h1.blk.cell rfl)))) ?_
    refine lexQ rfl rfl rfl rfl (fun H hM => (yMove (v := .bool false) rfl rfl)) ?_
    refine lexQ rfl rfl rfl rfl (fun H hM => (yMove (v := .int _ _) rfl rfl)) ?_
    refine lexQ rfl rfl rfl rfl (fun H hM => (yMove (v := .pointer _) rfl rfl)) ?_
    refine lexQ rfl rfl rfl rfl (fun H hM => (yNilCheck rfl rfl)) ?_
    refine lexQ rfl rfl rfl rfl (fun H hM => (yFieldAddr rfl Try.underlying126 rfl Try.sizeOf79 rfl rfl)) ?_
    refine lexQ rfl rfl rfl rfl (fun H hM => (yLoad rfl Try.underlying79 rfl rfl (hM.ext.cell (h1.blk.cell rfl)))) ?_
    refine lexQ rfl rfl rfl rfl (fun H hM => (yLen rfl Try.underlying79 rfl)) ?_
    refine lexQ rfl rfl rfl rfl (fun H hM => (yMove (v := .pointer _) rfl rfl)) ?_
    refine lexQ rfl rfl rfl rfl (fun H hM => (yNilCheck rfl rfl)) ?_
    refine lexQ rfl rfl rfl rfl (fun H hM => (yFieldAddr rfl Try.underlying126 rfl Try.sizeOf3 rfl rfl)) ?_
    refine lexQ rfl rfl rfl rfl (fun H hM => (yLoad rfl Try.underlying3 rfl rfl (hM.ext.cell (h1.blk.cell rfl)))) ?_
    refine lexQ rfl rfl rfl rfl (fun H hM => (ySub rfl rfl rfl (by unfold In64; omega))) ?_
    -- tail
    refine lexNil0 rfl (fun hM => ?_)
    refine seqQ rfl rfl (yGtr rfl rfl rfl) ?_
    refine seqQ rfl rfl (yPickF (v := .bool _) rfl rfl rfl) ?_
    refine seqNil ?_
    refine hF5 _ _ ?_; clear hF5
    -- if t31
    refine wpIf rfl (fun hlong => ?_) (fun hlong => ?_)
    · skip
      refine wpSeq fun F6 hF6 => ?_
      refine wpRegion ?_
      refine seqQ rfl rfl (yMove (v := .pointer _) rfl rfl) ?_
      refine seqQ rfl rfl (yMove (v := .int _ _) rfl rfl) ?_
      -- e slot 34: call F96<(*farandole/farandoleref01.Reader).fail> t32 t33
      refine seqE rfl rfl (stepCall rfl Try.call96 rfl ?_)
      refine (rFail01_c g B cB D k' k false H1 h1 hle).mono ?_
      rintro v H2 ⟨rfl, h2, hK2⟩
      refine seqNil ?_
      refine hF6 _ _ ?_; clear hF6
      refine wpSeq fun F7 hF7 => ?_
      refine wpRegion ?_
      refine seqQ rfl rfl (yAssign (v := .slice _ _ _) rfl rfl) ?_
      refine seqNil ?_
      refine hF7 _ _ ?_; clear hF7
      -- ret
      refine wpRet (fin1 (v := .slice _ _ _) rfl rfl ?_)
      refine RQ.fail (hK1.trans hK2) ?_ h2 rfl
      rw [prs_f]
      unfold pBytes
      rw [hp]
      refine if_neg ?_
      rw [List.length_drop]
      show ¬ m ≤ _
      omega
    · skip
      have hlen : k' + m ≤ D.length := by omega
      refine wpSkip ?_
      refine hF4 _ _ ?_; clear hF4
      refine wpSeq fun F8 hF8 => ?_
      refine wpRegion ?_
      refine seqQ rfl rfl (yMove (v := .pointer _) rfl rfl) ?_
      refine seqQ rfl rfl (yNilCheck rfl rfl) ?_
      refine seqQ rfl rfl (yFieldAddr rfl Try.underlying126 rfl Try.sizeOf3 rfl rfl) ?_
      refine seqQ rfl rfl (yLoad rfl Try.underlying3 rfl rfl (h1.blk.cell rfl)) ?_
      refine seqQ rfl rfl (yMove (v := .int _ _) rfl rfl) ?_
      refine seqQ rfl rfl (yAddE rfl rfl rfl (by unfold In64; omega) (show (k' : Int) + (m : Int) = ((k' + m : Nat) : Int) by omega)) ?_
      refine seqQ rfl rfl (yNilCheck rfl rfl) ?_
      refine seqQ rfl rfl (yFieldAddr rfl Try.underlying126 rfl Try.sizeOf3 rfl rfl) ?_
      -- e slot None: store T3 t42 t40
      refine seqE0 rfl rfl (stepStore rfl Try.sizeOf3 rfl rfl rfl rfl h1.blk (Nat.le_of_ble_eq_true rfl) ?_)
      intro H2 hB2 hK2
      have h2 := h1.store (k' := k' + m) (f' := false) hB2 hK2 hlen
      refine seqNil ?_
      refine hF8 _ _ ?_; clear hF8
      refine wpSeq fun F9 hF9 => ?_
      refine wpRegionD Try_mixed [.n, .q, .q, .q, .q, .q, .q, .q, .q, .q, .q, .q, .q, .q, .q, .q, .e, .q] 16 [0, 0, 2, 6, 14, 0, 32, 96, 224, 0, 992, 0, 2048, 6144, 14336, 32766, 65535, 131071] [] (by kernel_rfl) _ rfl [0, 1, 2, 3, 4, 5, 6, 7, 8, 9, 10, 11, 12, 13, 14, 15] rfl (by simp) ?_
      refine lexNB rfl rfl rfl rfl (nBuildSlice (vs := []) rfl Try.underlying79 Try.sizeOf5 Try.zeroValue5 rfl rfl rfl rfl) (fun g43 hg43 hne43 => ?_)
      refine lexQ rfl rfl rfl rfl (fun H hM => (yMove (v := .pointer _) rfl rfl)) ?_
      refine lexQ rfl rfl rfl rfl (fun H hM => (yNilCheck rfl rfl)) ?_
      refine lexQ rfl rfl rfl rfl (fun H hM => (yFieldAddr rfl Try.underlying126 rfl Try.sizeOf79 rfl rfl)) ?_
      refine lexQ rfl rfl rfl rfl (fun H hM => (yLoad rfl Try.underlying79 rfl rfl (hM.ext.cell (h2.blk.cell rfl)))) ?_
      refine lexQ rfl rfl rfl rfl (fun H hM => (yMove (v := .pointer _) rfl rfl)) ?_
      refine lexQ rfl rfl rfl rfl (fun H hM => (yNilCheck rfl rfl)) ?_
      refine lexQ rfl rfl rfl rfl (fun H hM => (yFieldAddr rfl Try.underlying126 rfl Try.sizeOf3 rfl rfl)) ?_
      refine lexQ rfl rfl rfl rfl (fun H hM => (yLoad rfl Try.underlying3 rfl rfl (hM.ext.cell (h2.blk.cell rfl)))) ?_
      refine lexQ rfl rfl rfl rfl (fun H hM => (yMove (v := .int _ _) rfl rfl)) ?_
      refine lexQ rfl rfl rfl rfl (fun H hM => (ySubE rfl rfl rfl (by unfold In64; omega) (show ((k' + m : Nat) : Int) - (m : Int) = (k' : Int) by omega))) ?_
      refine lexQ rfl rfl rfl rfl (fun H hM => (yMove (v := .pointer _) rfl rfl)) ?_
      refine lexQ rfl rfl rfl rfl (fun H hM => (yNilCheck rfl rfl)) ?_
      refine lexQ rfl rfl rfl rfl (fun H hM => (yFieldAddr rfl Try.underlying126 rfl Try.sizeOf3 rfl rfl)) ?_
      refine lexQ rfl rfl rfl rfl (fun H hM => (yLoad rfl Try.underlying3 rfl rfl (hM.ext.cell (h2.blk.cell rfl)))) ?_
      refine lexQ rfl rfl rfl rfl (fun H hM => (ySliceLH rfl Try.underlying79 Try.sizeOf5 rfl rfl rfl rfl rfl (by omega) (by have := h.cap; omega))) ?_
      -- tail
      refine lexNil (fun K5 hX5 hM5 hN5 => ?_)
      have hsub := (h2.rd.sub (k := k') (n := m) h.cap).rd.ext hX5
      have hl : ((D.drop k').take m).length = m := by rw [List.length_take, List.length_drop]; omega
      have h5 := h2.ext hX5
      have zK := h5.lt
      have z2 := h2.lt
      have zX := hX5.size
      have zz1 := hK1.size
      have zz2 := hK2.size
      have g43H : H.size ≤ g43 := by omega
      -- e slot 59: builtin append t43 t58 : [79, 79]
      refine seqE rfl rfl (stepApp (c := eByte) (Own.lit (c := eByte) (l := []) (base := H2.size) (NF.blk 0 hN5 (.head _)) hg43 (by simp)) rfl Try.underlying79 elem_eByte rfl (by omega) rfl rfl (by rw [hl]; omega) hsub (by rw [hl]; simp; omega) zX ?_)
      intro v H6 o6 gr
      rw [List.nil_append] at o6
      have x6 : Ext H2 H6 := gr.ext hX5 (by rintro g e; obtain rfl := Option.some.inj e; exact hg43)
      obtain ⟨A6, c6, rfl, -⟩ := o6.form
      refine seqQ rfl rfl (yAssign (v := .slice _ _ _) rfl rfl) ?_
      refine seqNil ?_
      refine hF9 _ _ ?_; clear hF9
      -- ret
      refine wpRet (fin1 (v := .slice _ _ _) rfl rfl ?_)
      refine RQ.good (a := (D.drop k').take m) ((hK1.trans hK2).trans (x6.keep _)) ?_ (h2.ext x6) ⟨A6, c6, rfl, (Own.rd o6).2⟩
      unfold pBytes
      rw [hp]
      simp only [Option.bind_some]
      rw [if_pos (by rw [List.length_drop]; show m ≤ _; omega), List.drop_drop]
      rfl
  · skip
    refine seqQ rfl rfl (yAssign (v := .int _ _) rfl rfl) ?_
    refine seqNil ?_
    refine hF3 _ _ ?_; clear hF3
    refine wpSeq fun F10 hF10 => ?_
    refine wpSeq fun F11 hF11 => ?_
    refine wpRegionD Try_mixed [.q, .q, .q, .q, .q, .q, .q, .q, .q, .q, .q, .q, .q, .q, .q, .q, .q, .q] 16 [0, 1, 3, 7, 15, 31, 31, 95, 223, 479, 991, 31, 2079, 6175, 14367, 32735, 65535, 131071] [] (by kernel_rfl) _ rfl [0, 1, 2, 3, 4, 5, 6, 7, 8, 9, 10, 11, 12, 13, 14, 15] rfl (by simp) ?_
    refine lexQ rfl rfl rfl rfl (fun H hM => (yMove (v := .pointer _) rfl rfl)) ?_
    refine lexQ rfl rfl rfl rfl (fun H hM => (yNilCheck rfl rfl)) ?_
    refine lexQ rfl rfl rfl rfl (fun H hM => (yFieldAddr rfl Try.underlying126 rfl Try.sizeOf4 rfl rfl)) ?_
    refine lexQ rfl rfl rfl rfl (fun H hM => (yLoad rfl Try.underlying4 rfl rfl (hM.ext.cell (h1.blk.cell rfl)))) ?_
    refine lexQ rfl rfl rfl rfl (fun H hM => (yMove (v := .bool true) rfl rfl)) ?_
    refine lexU rfl rfl rfl ?_
    refine lexU rfl rfl rfl ?_
    refine lexU rfl rfl rfl ?_
    refine lexU rfl rfl rfl ?_
    refine lexU rfl rfl rfl ?_
    refine lexU rfl rfl rfl ?_
    refine lexU rfl rfl rfl ?_
    refine lexU rfl rfl rfl ?_
    refine lexU rfl rfl rfl ?_
    refine lexU rfl rfl rfl ?_
    refine lexU rfl rfl rfl ?_
    -- tail
    refine lexNil0 rfl (fun hM => ?_)
    refine seqU rfl rfl ?_
    refine seqQ rfl rfl (yPickT (v := .bool _) rfl rfl rfl) ?_
    refine seqNil ?_
    refine hF11 _ _ ?_; clear hF11
    -- if t31
    refine wpT rfl ?_
    refine wpSeq fun F12 hF12 => ?_
    refine wpRegion ?_
    refine seqQ rfl rfl (yMove (v := .pointer _) rfl rfl) ?_
    refine seqQ rfl rfl (yMove (v := .int _ _) rfl rfl) ?_
    -- e slot 34: call F96<(*farandole/farandoleref01.Reader).fail> t32 t33
    refine seqE rfl rfl (stepCall rfl Try.call96 rfl ?_)
    refine (rFail01_c g B cB D k' k true H1 h1 hle).mono ?_
    rintro v H2 ⟨rfl, h2, hK2⟩
    refine seqNil ?_
    refine hF12 _ _ ?_; clear hF12
    refine wpSeq fun F13 hF13 => ?_
    refine wpRegion ?_
    refine seqQ rfl rfl (yAssign (v := .slice _ _ _) rfl rfl) ?_
    refine seqNil ?_
    refine hF13 _ _ ?_; clear hF13
    -- ret
    refine wpRet (fin1 (v := .slice _ _ _) rfl rfl ?_)
    refine RQ.fail (hK1.trans hK2) ?_ h2 rfl
    cases f
    · rw [prs_f] at hp ⊢
      unfold pBytes
      rw [hp]
      rfl
    · rfl
set_option maxRecDepth 100000 in
theorem rText01_c (g : Nat) (B : Option Addr) (cB : Nat) (D : List UInt8) (k : Nat) (f : Bool) (most : Int) (H : Heap) (h : RRd H g B cB D k f) (hm : most ≤ 1000000000) :
    CallsH Try.prog 109 [.pointer (some ⟨g, 0, none⟩), .int .i64 most] H fun v H' => RE (pBytes most) (fun b => .string ⟨b.toArray⟩) (fun b => (b.length : Int) ≤ most) g B cB D k f H v H' := by
  refine callsH_of Try.func109 rfl Try.ntmps109 (Nat.le_of_ble_eq_true rfl) ?_
  refine wpSeq fun F1 hF1 => ?_
  refine wpRegion ?_
  refine seqQ rfl rfl (yAssign (v := .string _) rfl rfl) ?_
  refine seqNil ?_
  refine hF1 _ _ ?_; clear hF1
  refine wpSeq fun F2 hF2 => ?_
  refine wpRegion ?_
  refine seqQ rfl rfl (yMove (v := .pointer _) rfl rfl) ?_
  refine seqQ rfl rfl (yMove (v := .int _ _) rfl rfl) ?_
  -- e slot 7: call F111<(*farandole/farandoleref01.Reader).Bytes> t5 t6
  refine seqE rfl rfl (stepCall rfl Try.call111 rfl ?_)
  refine (rBytes01_c g B cB D k f most H h hm).mono ?_
  rintro v H1 ⟨hK1, ⟨b, r, k', hp, rfl, h1, A, c, rfl, hA⟩ | ⟨hp, ⟨k', h1⟩, rfl⟩⟩
  · skip
    refine seqQ rfl rfl (yBytesStr rfl Try.underlying79 Try.underlying9 Try.underlying5 rfl rfl hA) ?_
    refine seqQ rfl rfl (yAssign (v := .string _) rfl rfl) ?_
    refine seqNil ?_
    refine hF2 _ _ ?_; clear hF2
    -- ret
    refine wpRet (fin1 (v := .string _) rfl rfl ?_)
    exact ⟨hK1, b, false, k', rfl, h1, fun _ => pBytes_le (prs_ff hp).2, .inr ⟨rfl, hp⟩⟩
  · skip
    refine seqQ rfl rfl (yBytesStr (bs := []) rfl Try.underlying79 Try.underlying9 Try.underlying5 rfl rfl (Rd.nil _ _)) ?_
    refine seqQ rfl rfl (yAssign (v := .string _) rfl rfl) ?_
    refine seqNil ?_
    refine hF2 _ _ ?_; clear hF2
    -- ret
    refine wpRet (fin1 (v := .string _) rfl rfl ?_)
    exact ⟨hK1, [], true, k', rfl, h1, fun h => (by cases h), .inl ⟨rfl, hp⟩⟩
set_option maxRecDepth 100000 in
theorem rVal01_c (g : Nat) (B : Option Addr) (cB : Nat) (D : List UInt8) (k : Nat) (f : Bool) (H : Heap) (h : RRd H g B cB D k f) :
    CallsH Try.prog 106 [.pointer (some ⟨g, 0, none⟩)] H fun v H' => RE pVal (fun x => .agg (eWV.F x).toArray) OkW g B cB D k f H v H' := by
  have hle := h.le
  refine callsH_of Try.func106 rfl Try.ntmps106 (Nat.le_of_ble_eq_true rfl) ?_
  refine wpSeq fun F1 hF1 => ?_
  refine wpRegion ?_
  refine seqN rfl rfl (nAlloc rfl Try.zeroValue88 rfl) (fun g2 H2 hx2 hB2 hg2 hl2 => ?_)
  refine seqNil ?_
  refine hF1 _ _ ?_; clear hF1
  refine wpSeq fun F2 hF2 => ?_
  refine wpRegion ?_
  refine seqQ rfl rfl (yMove (v := .pointer _) rfl rfl) ?_
  refine seqQ rfl rfl (yNilCheck rfl rfl) ?_
  refine seqQ rfl rfl (yFieldAddr rfl Try.underlying126 rfl Try.sizeOf3 rfl rfl) ?_
  refine seqQ rfl rfl (yLoad rfl Try.underlying3 rfl rfl ((h.ext hx2).blk.cell rfl)) ?_
  refine seqQ rfl rfl (yAssign (v := .int _ _) rfl rfl) ?_
  refine seqNil ?_
  refine hF2 _ _ ?_; clear hF2
  refine wpSeq fun F3 hF3 => ?_
  refine wpRegion ?_
  refine seqQ rfl rfl (yMove (v := .pointer _) rfl rfl) ?_
  -- e slot 10: call F65<(*farandole/farandoleref01.Reader).Bounded> t9 [i:i64:1] [i:i64:2]
  refine seqE rfl rfl (stepCall rfl Try.call65 rfl ?_)
  refine (rBnd01_c g B cB D k f 1 2 H2 (h.ext hx2)).mono ?_
  rintro v H1 hr
  obtain ⟨n, f1, k1, rfl, h1, hK1, hd1⟩ : ∃ n f1 k1, v = .int .i64 n ∧ RRd H1 g B cB D k1 f1 ∧ Keep [g] H2 H1 ∧ ((f1 = true ∧ prs (pBnd 1 2) f D k = none ∧ n = 0) ∨ (f1 = false ∧ prs (pBnd 1 2) f D k = some (n, D.drop k1) ∧ 1 ≤ n ∧ n ≤ 2)) := by
    obtain ⟨hK1, ⟨n, r, k', hp, rfl, h1, rfl, hn0, hnm⟩ | ⟨hp, ⟨k', h1⟩, rfl⟩⟩ := hr
    · exact ⟨n, false, k', rfl, h1, hK1, .inr ⟨rfl, hp, hn0, hnm⟩⟩
    · exact ⟨0, true, k', rfl, h1, hK1, .inl ⟨rfl, hp, rfl⟩⟩
  have s2 := hx2.size
  have s1 := hK1.size
  have l2 := hB2.lt
  have lg := h.blk.lt
  refine seqQ rfl rfl (yBuild (pl := [(0, 1), (1, 1), (2, 1)]) (vs := [(0, .int _ _)]) rfl Try.underlying88 Try.zeroValue88 rfl (by unfold Places; kernel_rfl) rfl rfl) ?_
  refine seqN rfl rfl (nAlloc rfl Try.zeroValue88 rfl) (fun g4 H4 hx4 hB4 hg4 hl4 => ?_)
  -- e slot None: store T88 t4 t11
  refine seqE0 rfl rfl (stepStoreB rfl (by kernel_rfl) rfl rfl rfl hB4 rfl ?_)
  intro H5 hB5 hK5
  have s4 := hx4.size
  have l4 := hB5.lt
  have h5 := (h1.ext hx4).new (h.ext hx2) hK5 (by omega)
  have hKa : Keep [g] H H5 := keepNew (keepExt ((hx2.keep [g]).trans hK1) hx4) hK5 (by omega)
  have hB25 : Blk H5 g2 [.int .i64 0, .int .i64 0, .string ⟨#[]⟩] 88 := ((hB2.keep hK1 (by simp; omega)).ext hx4).keep hK5 (by simp; omega)
  have s5 := hK5.size
  clear hB2 hx2 hK1 h1 hx4 hK5 hB4 hr
  refine seqNil ?_
  refine hF3 _ _ ?_; clear hF3
  refine wpSeq fun F4 hF4 => ?_
  refine wpSeq fun F5 hF5 => ?_
  refine wpRegion ?_
  refine seqQ rfl rfl (yFieldAddr rfl Try.underlying88 rfl Try.sizeOf3 rfl rfl) ?_
  refine seqQ rfl rfl (yLoad rfl Try.underlying3 rfl rfl (hB5.cell rfl)) ?_
  refine seqQ rfl rfl (yEql rfl rfl rfl) ?_
  refine seqNil ?_
  refine hF5 _ _ ?_; clear hF5
  -- if t14
  refine wpIf rfl (fun hn1 => ?_) (fun hn1 => ?_)
  · skip
    subst hn1
    refine wpRegion ?_
    refine seqQ rfl rfl (yMove (v := .pointer _) rfl rfl) ?_
    -- e slot 16: call F95<(*farandole/farandoleref01.Reader).Int> t15
    refine seqE rfl rfl (stepCall rfl Try.call95 rfl ?_)
    refine (rInt01_c g B cB D k1 f1 H5 h5).mono ?_
    rintro v H6 hr
    obtain ⟨hK6, a, f9, k9, rfl, h6, hq6, hd6⟩ := hr.int
    have s6 := hK6.size
    refine seqQ rfl rfl (yFieldAddr rfl Try.underlying88 rfl Try.sizeOf3 rfl rfl) ?_
    -- e slot None: store T3 t17 t16
    refine seqE0 rfl rfl (stepStore rfl Try.sizeOf3 rfl rfl rfl rfl (hB5.keep hK6 (by simp; omega)) (Nat.le_of_ble_eq_true rfl) ?_)
    intro H7 hB9 hK7
    have h9 := h6.new h hK7 (by omega)
    have hK9 := keepNew (hKa.trans hK6) hK7 (by omega)
    have hB29 := (hB25.keep hK6 (by simp; omega)).keep hK7 (by simp; omega)
    have s7 := hK7.size
    obtain ⟨x, ex⟩ : ∃ x : Val, x = ⟨1, a, ⟨#[]⟩⟩ := ⟨_, rfl⟩
    replace hB9 : Blk H7 g4 (eWV.F x) 88 := by rw [ex]; exact hB9
    have hres : (f9 = true ∧ prs pVal f D k = none) ∨ (f9 = false ∧ prs pVal f D k = some (x, D.drop k9) ∧ OkW x) := by
      rcases hd1 with ⟨_, _, h0⟩ | ⟨rfl, hp1, -⟩
      · exact absurd h0 (by decide)
      · obtain ⟨hf0, hq1⟩ := prs_ff hp1
        subst hf0
        rcases hd6 with ⟨e6, hp6⟩ | ⟨e6, hp6⟩
        · refine .inl ⟨e6, ?_⟩
          rw [prs_f] at hp6 ⊢
          unfold pVal
          rw [hq1]
          simp only [Option.bind_some]
          rw [if_pos trivial, hp6]
          rfl
        · refine .inr ⟨e6, ?_, ?_⟩
          · rw [prs_f] at hp6 ⊢
            unfold pVal
            rw [hq1]
            simp only [Option.bind_some]
            rw [if_pos trivial, hp6, ex]
            rfl
          · rw [ex]
            exact ⟨⟨by show P64 1; unfold P64; omega, hq6 e6, by show (0 : Nat) ≤ _; omega⟩, by show (0 : Nat) ≤ _; omega, .inl ⟨rfl, rfl⟩⟩
    clear hK7 hK6 hKa h5 h6 hB25 hB5 hd1 hd6 hq6
    refine seqNil ?_
    refine hF4 _ _ ?_; clear hF4
    refine wpSeq fun F6 hF6 => ?_
    refine wpSeq fun F7 hF7 => ?_
    refine wpRegion ?_
    refine seqQ rfl rfl (yMove (v := .pointer _) rfl rfl) ?_
    refine seqQ rfl rfl (yNilCheck rfl rfl) ?_
    refine seqQ rfl rfl (yFieldAddr rfl Try.underlying126 rfl Try.sizeOf4 rfl rfl) ?_
    refine seqQ rfl rfl (yLoad rfl Try.underlying4 rfl rfl (h9.blk.cell rfl)) ?_
    refine seqNil ?_
    refine hF7 _ _ ?_; clear hF7
    -- if t24
    rcases hres with ⟨rfl, hp⟩ | ⟨rfl, hp, hok⟩
    · skip
      refine wpT rfl ?_
      refine wpSeq fun F8 hF8 => ?_
      refine wpRegion ?_
      refine seqQ rfl rfl (yMove (v := .pointer _) rfl rfl) ?_
      refine seqQ rfl rfl (yMove (v := .int _ _) rfl rfl) ?_
      -- e slot 27: call F96<(*farandole/farandoleref01.Reader).fail> t25 t26
      refine seqE rfl rfl (stepCall rfl Try.call96 rfl ?_)
      refine (rFail01_c g B cB D k9 k true _ h9 hle).mono ?_
      rintro v Hx ⟨rfl, hx, hKx⟩
      refine seqNil ?_
      refine hF8 _ _ ?_; clear hF8
      refine wpSeq fun F9 hF9 => ?_
      refine wpRegion ?_
      refine seqQ rfl rfl (yBuild (pl := [(0, 1), (1, 1), (2, 1)]) (vs := []) rfl Try.underlying88 Try.zeroValue88 rfl (by unfold Places; kernel_rfl) rfl rfl) ?_
      -- e slot None: store T88 t2 t28
      refine seqE0 rfl rfl (stepStoreB rfl (by kernel_rfl) rfl rfl rfl (hB29.keep hKx (by simp; omega)) rfl ?_)
      intro Hy hy hKy
      have hyr := hx.new h hKy (by omega)
      refine seqNil ?_
      refine hF9 _ _ ?_; clear hF9
      -- ret
      refine wpRet (finR1 rfl (resC Try.underlying88 rfl (by kernel_rfl) rfl hy) ?_)
      exact ⟨keepNew (hK9.trans hKx) hKy (by omega), ⟨0, 0, ⟨#[]⟩⟩, true, k, rfl, hyr, fun h => (by cases h), .inl ⟨rfl, hp⟩⟩
    · skip
      refine wpF rfl ?_
      refine wpSkip ?_
      refine hF6 _ _ ?_; clear hF6
      refine wpSeq fun F10 hF10 => ?_
      refine wpRegion ?_
      refine seqQ rfl rfl (yLoadB hB9 rfl Try.underlying88 rfl Try.sizeOf88 rfl) ?_
      -- e slot None: store T88 t2 t29
      refine seqE0 rfl rfl (stepStoreB rfl (by kernel_rfl) rfl rfl rfl hB29 rfl ?_)
      intro Hy hy hKy
      have hyr := h9.new h hKy (by omega)
      refine seqNil ?_
      refine hF10 _ _ ?_; clear hF10
      -- ret
      refine wpRet (finR1 rfl (resC Try.underlying88 rfl (by kernel_rfl) rfl hy) ?_)
      exact ⟨keepNew hK9 hKy (by omega), x, false, k9, rfl, hyr, fun _ => hok, .inr ⟨rfl, hp⟩⟩
  · skip
    refine wpRegion ?_
    refine seqQ rfl rfl (yMove (v := .pointer _) rfl rfl) ?_
    -- e slot 19: call F109<(*farandole/farandoleref01.Reader).Text> t18 [i:i64:40]
    refine seqE rfl rfl (stepCall rfl Try.call109 rfl ?_)
    refine (rText01_c g B cB D k1 f1 40 H5 h5 (by omega)).mono ?_
    rintro v H6 ⟨hK6, bs, f9, k9, rfl, h6, hq6, hd6⟩
    have s6 := hK6.size
    refine seqQ rfl rfl (yFieldAddr rfl Try.underlying88 rfl Try.sizeOf9 rfl rfl) ?_
    -- e slot None: store T9 t20 t19
    refine seqE0 rfl rfl (stepStore rfl Try.sizeOf9 rfl rfl rfl rfl (hB5.keep hK6 (by simp; omega)) (Nat.le_of_ble_eq_true rfl) ?_)
    intro H7 hB9 hK7
    have h9 := h6.new h hK7 (by omega)
    have hK9 := keepNew (hKa.trans hK6) hK7 (by omega)
    have hB29 := (hB25.keep hK6 (by simp; omega)).keep hK7 (by simp; omega)
    have s7 := hK7.size
    obtain ⟨x, ex⟩ : ∃ x : Val, x = ⟨n, 0, ⟨bs.toArray⟩⟩ := ⟨_, rfl⟩
    replace hB9 : Blk H7 g4 (eWV.F x) 88 := by rw [ex]; exact hB9
    have hres : (f9 = true ∧ prs pVal f D k = none) ∨ (f9 = false ∧ prs pVal f D k = some (x, D.drop k9) ∧ OkW x) := by
      rcases hd1 with ⟨rfl, hp1, h0⟩ | ⟨rfl, hp1, hlo, hhi⟩
      · refine .inl ⟨?_, ?_⟩
        · rcases hd6 with ⟨e6, -⟩ | ⟨-, hp6⟩
          · exact e6
          · cases hp6
        · cases f
          · rw [prs_f] at hp1 ⊢
            unfold pVal
            rw [hp1]
            rfl
          · rfl
      · obtain ⟨hf0, hq1⟩ := prs_ff hp1
        subst hf0
        have hn2 : n = 2 := by omega
        rcases hd6 with ⟨e6, hp6⟩ | ⟨e6, hp6⟩
        · refine .inl ⟨e6, ?_⟩
          rw [prs_f] at hp6 ⊢
          unfold pVal
          rw [hq1]
          simp only [Option.bind_some]
          rw [if_neg hn1, hp6]
          rfl
        · have hle6 := hq6 e6
          refine .inr ⟨e6, ?_, ?_⟩
          · rw [prs_f] at hp6 ⊢
            unfold pVal
            rw [hq1]
            simp only [Option.bind_some]
            rw [if_neg hn1, hp6, ex]
            rfl
          · rw [ex, hn2]
            have hsz : (⟨bs.toArray⟩ : ByteArray).size = bs.length := by show bs.toArray.size = _; simp
            exact ⟨⟨by show P64 2; unfold P64; omega, by show P64 0; unfold P64; omega, by show (⟨bs.toArray⟩ : ByteArray).size ≤ _; omega⟩, by show (⟨bs.toArray⟩ : ByteArray).size ≤ _; omega, .inr ⟨rfl, rfl⟩⟩
    clear hK7 hK6 hKa h5 h6 hB25 hB5 hd1 hd6 hq6
    refine seqNil ?_
    refine hF4 _ _ ?_; clear hF4
    refine wpSeq fun F11 hF11 => ?_
    refine wpSeq fun F12 hF12 => ?_
    refine wpRegion ?_
    refine seqQ rfl rfl (yMove (v := .pointer _) rfl rfl) ?_
    refine seqQ rfl rfl (yNilCheck rfl rfl) ?_
    refine seqQ rfl rfl (yFieldAddr rfl Try.underlying126 rfl Try.sizeOf4 rfl rfl) ?_
    refine seqQ rfl rfl (yLoad rfl Try.underlying4 rfl rfl (h9.blk.cell rfl)) ?_
    refine seqNil ?_
    refine hF12 _ _ ?_; clear hF12
    -- if t24
    rcases hres with ⟨rfl, hp⟩ | ⟨rfl, hp, hok⟩
    · skip
      refine wpT rfl ?_
      refine wpSeq fun F13 hF13 => ?_
      refine wpRegion ?_
      refine seqQ rfl rfl (yMove (v := .pointer _) rfl rfl) ?_
      refine seqQ rfl rfl (yMove (v := .int _ _) rfl rfl) ?_
      -- e slot 27: call F96<(*farandole/farandoleref01.Reader).fail> t25 t26
      refine seqE rfl rfl (stepCall rfl Try.call96 rfl ?_)
      refine (rFail01_c g B cB D k9 k true _ h9 hle).mono ?_
      rintro v Hx ⟨rfl, hx, hKx⟩
      refine seqNil ?_
      refine hF13 _ _ ?_; clear hF13
      refine wpSeq fun F14 hF14 => ?_
      refine wpRegion ?_
      refine seqQ rfl rfl (yBuild (pl := [(0, 1), (1, 1), (2, 1)]) (vs := []) rfl Try.underlying88 Try.zeroValue88 rfl (by unfold Places; kernel_rfl) rfl rfl) ?_
      -- e slot None: store T88 t2 t28
      refine seqE0 rfl rfl (stepStoreB rfl (by kernel_rfl) rfl rfl rfl (hB29.keep hKx (by simp; omega)) rfl ?_)
      intro Hy hy hKy
      have hyr := hx.new h hKy (by omega)
      refine seqNil ?_
      refine hF14 _ _ ?_; clear hF14
      -- ret
      refine wpRet (finR1 rfl (resC Try.underlying88 rfl (by kernel_rfl) rfl hy) ?_)
      exact ⟨keepNew (hK9.trans hKx) hKy (by omega), ⟨0, 0, ⟨#[]⟩⟩, true, k, rfl, hyr, fun h => (by cases h), .inl ⟨rfl, hp⟩⟩
    · skip
      refine wpF rfl ?_
      refine wpSkip ?_
      refine hF11 _ _ ?_; clear hF11
      refine wpSeq fun F15 hF15 => ?_
      refine wpRegion ?_
      refine seqQ rfl rfl (yLoadB hB9 rfl Try.underlying88 rfl Try.sizeOf88 rfl) ?_
      -- e slot None: store T88 t2 t29
      refine seqE0 rfl rfl (stepStoreB rfl (by kernel_rfl) rfl rfl rfl hB29 rfl ?_)
      intro Hy hy hKy
      have hyr := h9.new h hKy (by omega)
      refine seqNil ?_
      refine hF15 _ _ ?_; clear hF15
      -- ret
      refine wpRet (finR1 rfl (resC Try.underlying88 rfl (by kernel_rfl) rfl hy) ?_)
      exact ⟨keepNew hK9 hKy (by omega), x, false, k9, rfl, hyr, fun _ => hok, .inr ⟨rfl, hp⟩⟩
end Go.Proofs.Ytbanngdijmglbaa
