/- Package wire: the laws' helpers. -/
import Derived.Test.YtnccbnjjnijbhaaW9
namespace Go.Proofs.Ytnccbnjjnijbhaa
open Go.RowKit

set_option maxRecDepth 100000 in
theorem bytesEq (x y : List UInt8) : decide ((⟨x.toArray⟩ : ByteArray) = ⟨y.toArray⟩) = decide (x = y) := by
  apply decide_eq_decide.2
  constructor
  · intro h
    have := congrArg (fun b : ByteArray => b.data.toList) h
    simpa using this
  · rintro rfl
    rfl
section
variable {P : Program} {n : Nat} {o : Oper} {E : Env} {H : Heap} {x y : Operand} {T yT e : TypeId} {p : Addr}
set_option maxRecDepth 100000 in
theorem yNeqPN (ho : o.op = .binOp .neq T x y yT) (hT : P.underlying T = some (.pointer e)) (hx : ev n E x = .pointer (some p)) (hy : ev n E y = .pointer none) : Yld P n o E H (.bool true) := fun w _ => by
  have hg : (eqGuard .neq T x y (.pointer (some p)) (.pointer none)).run P w = .ok () w := by simp [eqGuard]
  have he : (Op.equal T (.pointer (some p)) (.pointer none)).run P w = .ok false w := by
    have h : ∀ d : Nat, (Op.equalIn (d + 1) T (.pointer (some p)) (.pointer none)).run P w = .ok false w := fun d => by simp [Op.equalIn, run_underlying hT]
    simp only [Op.equal, Op.maxDepth]
    exact h 9999
  have hb : (binOp .neq T (.pointer (some p)) (.pointer none)).run P w = .ok (.bool true) w := by simp only [binOp]; simp [he]
  unfold execOp
  simp only [ho, hx, hy]
  simp [hg, hb]
end
set_option maxRecDepth 100000 in
theorem Rdr.other {H H' : Heap} {g g' : Nat} {B : Option Addr} {cB : Nat} {D : List UInt8} {k : Nat} {f : Bool} (h : Rdr H g B cB D k f) (hK : Keep [g'] H H') (hg : g ≠ g') (hB : ∀ p, B = some p → D ≠ [] → p.block ≠ g') : Rdr H' g B cB D k f :=
  ⟨h.blk.keep hK (by simpa using hg), fun hn => by
    obtain ⟨p, e, hm, hc⟩ := h.rd hn
    exact ⟨p, e, hm, fun j u hu => hK.cell (hc j u hu) (by rw [block_of_add]; simpa using hB p e hn)⟩, h.le, h.cap, h.few⟩
set_option maxRecDepth 100000 in
theorem Rdr.blt {H : Heap} {g : Nat} {B : Option Addr} {cB : Nat} {D : List UInt8} {k : Nat} {f : Bool} (h : Rdr H g B cB D k f) : ∀ p, B = some p → D ≠ [] → p.block < H.size := fun p e hn => by
  obtain ⟨q, eq, hq⟩ := h.rd.rd.lt (List.length_pos_iff.2 hn)
  rw [e] at eq
  obtain rfl := Option.some.inj eq
  exact hq
set_option maxRecDepth 100000 in
theorem Same_c (A B : Option Addr) (x y : List UInt8) (cA cB : Nat) (H : Heap) (hA : Rd eByte H A x) (hB : Rd eByte H B y) :
    CallsH Try.prog 10 [.slice A x.length cA, .slice B y.length cB] H fun v H' => v = .bool (decide (x = y)) ∧ H' = H := by
  refine callsH_of Try.func10 rfl Try.ntmps10 (Nat.le_of_ble_eq_true rfl) ?_
  refine wpSeq fun F1 hF1 => ?_
  refine wpRegion ?_
  refine seqQ rfl rfl (yAssign (v := .bool _) rfl rfl) ?_
  refine seqNil ?_
  refine hF1 _ _ ?_; clear hF1
  refine wpSeq fun F2 hF2 => ?_
  refine wpRegion ?_
  refine seqQ rfl rfl (yMove (v := .slice _ _ _) rfl rfl) ?_
  refine seqQ rfl rfl (yBytesStr rfl Try.underlying29 Try.underlying9 Try.underlying5 rfl rfl hA) ?_
  refine seqQ rfl rfl (yMove (v := .slice _ _ _) rfl rfl) ?_
  refine seqQ rfl rfl (yBytesStr rfl Try.underlying29 Try.underlying9 Try.underlying5 rfl rfl hB) ?_
  refine seqQ rfl rfl (yEqlS rfl rfl rfl) ?_
  refine seqQ rfl rfl (yAssign (v := .bool _) rfl rfl) ?_
  refine seqNil ?_
  refine hF2 _ _ ?_; clear hF2
  -- ret
  refine wpRet (fin1 (v := .bool _) rfl rfl ?_)
  exact ⟨by rw [bytesEq], rfl⟩
set_option maxRecDepth 100000 in
theorem joined_c (A B : Option Addr) (x y : List UInt8) (cA cB : Nat) (H : Heap) (hA : Rd eByte H A x) (hB : Rd eByte H B y) (hl : x.length + y.length ≤ 1000000) :
    CallsH Try.prog 21 [.slice A x.length cA, .slice B y.length cB] H fun v H' => Ext H H' ∧ Own eByte 5 H' H.size v (x ++ y) := by
  refine callsH_of Try.func21 rfl Try.ntmps21 (Nat.le_of_ble_eq_true rfl) ?_
  refine wpSeq fun F1 hF1 => ?_
  refine wpRegion ?_
  refine seqQ rfl rfl (yAssign (v := .slice _ _ _) rfl rfl) ?_
  refine seqNil ?_
  refine hF1 _ _ ?_; clear hF1
  refine wpSeq fun F2 hF2 => ?_
  refine wpRegion ?_
  refine seqN rfl rfl (nBuildSlice (vs := []) rfl Try.underlying29 Try.sizeOf5 Try.zeroValue5 rfl rfl rfl rfl) (fun g5 H5 hx5 hB5 hg5 hl5 => ?_)
  refine seqQ rfl rfl (yMove (v := .slice _ _ _) rfl rfl) ?_
  -- e slot 7: builtin append t5 t6 : [29, 29]
  refine seqE rfl rfl (stepApp (c := eByte) (Own.lit (c := eByte) (l := []) (base := H.size) hB5 hg5 (by simp)) rfl Try.underlying29 elem_eByte rfl (by omega) rfl rfl rfl (hA.ext hx5) (by simp; omega) (Nat.le_trans hx5.size (Nat.le_refl _)) ?_)
  intro v7 H7 ho7 hw7
  rw [List.nil_append] at ho7
  have hx7 : Ext H H7 := hw7.ext hx5 (by intro g e; cases e; exact hg5)
  have hne7 := ho7.lt
  obtain ⟨A7, c7, rfl, hc7, hr7, hb7⟩ := ho7.form
  refine seqQ rfl rfl (yMove (v := .slice _ _ _) rfl rfl) ?_
  -- e slot 9: builtin append t7 t8 : [29, 29]
  refine seqE rfl rfl (stepApp (c := eByte) ho7 rfl Try.underlying29 elem_eByte rfl (by omega) rfl rfl rfl (hB.ext hx7) (by omega) (Nat.le_trans hx7.size (Nat.le_refl _)) ?_)
  intro v9 H9 ho9 hw9
  obtain ⟨A9, c9, rfl, hc9, hr9, hb9⟩ := ho9.form
  refine seqQ rfl rfl (yAssign (v := .slice _ _ _) rfl rfl) ?_
  refine seqNil ?_
  refine hF2 _ _ ?_; clear hF2
  -- ret
  refine wpRet (fin1 (v := .slice _ _ _) rfl rfl ?_)
  exact ⟨hw9.ext hx7 (fun g e => (hne7 g e).1), ho9⟩
set_option maxRecDepth 100000 in
theorem awake_c (H : Heap) : CallsH Try.prog 8 [] H fun v H' => v = .bool true ∧ Ext H H' := by
  refine callsH_of Try.func8 rfl Try.ntmps8 (Nat.le_of_ble_eq_true rfl) ?_
  refine wpSeq fun F1 hF1 => ?_
  refine wpRegion ?_
  refine seqQ rfl rfl (yAssign (v := .bool _) rfl rfl) ?_
  refine seqNil ?_
  refine hF1 _ _ ?_; clear hF1
  refine wpSeq fun F2 hF2 => ?_
  refine wpRegion ?_
  refine seqN rfl rfl (nBuildSlice (vs := [.int _ _, .int _ _]) rfl Try.underlying29 Try.sizeOf5 Try.zeroValue5 rfl rfl rfl rfl) (fun g3 H3 hx3 hB3 hg3 hl3 => ?_)
  -- e slot 4: call F20<farandole/wire.New> t3
  refine seqE rfl rfl (stepCall rfl Try.call20 rfl ?_)
  refine (New_c (some ⟨g3, 0, none⟩) 2 [128, 0] H3 (fun _ => ⟨_, rfl, fun j u hu => hB3.cell hu⟩) (by decide)).mono ?_
  rintro v H4 ⟨hx4, g, B, cB, rfl, hg, hr, -⟩
  refine seqQ rfl rfl (yAssign (v := .pointer _) rfl rfl) ?_
  refine seqNil ?_
  refine hF2 _ _ ?_; clear hF2
  refine wpSeq fun F3 hF3 => ?_
  refine wpRegion ?_
  refine seqQ rfl rfl (yBuild (pl := [(0, 1), (1, 1), (2, 1)]) (vs := [(0, .int _ _), (2, .string _)]) rfl Try.underlying34 Try.zeroValue34 rfl (by unfold Places; kernel_rfl) rfl rfl) ?_
  refine seqN rfl rfl (nAlloc rfl Try.zeroValue34 rfl) (fun g2 H2 hx2 hB2 hg2 hl2 => ?_)
  -- e slot None: store T34 t2 t5
  refine seqE0 rfl rfl (stepStoreB rfl (by kernel_rfl) rfl rfl rfl hB2 rfl ?_)
  intro H5 hB5 hK5
  have x5 : Ext H4 H5 := hx2.mine hK5 (by simp; omega)
  have r5 := hr.ext x5
  refine seqNil ?_
  refine hF3 _ _ ?_; clear hF3
  refine wpSeq fun F4 hF4 => ?_
  refine wpRegion ?_
  refine seqN rfl rfl (nBuildSlice (vs := [.int _ _]) rfl Try.underlying29 Try.sizeOf5 Try.zeroValue5 rfl rfl rfl rfl) (fun g6 H6 hx6 hB6 hg6 hl6 => ?_)
  -- e slot 7: call F11<farandole/wire.Int> t6 [i:i64:64]
  refine seqE rfl rfl (stepCall rfl Try.call11 rfl ?_)
  have r6 := r5.ext hx6
  refine (int_c (.slice (some ⟨g6, 0, none⟩) 1 1) 64 H5.size [9] H6 ⟨by omega, by omega⟩ hx6.size (Own.lit (c := eByte) (l := [9]) hB6 hg6 (by simp)) (by simp)).mono ?_
  rintro v7 H7 ⟨ho7, hg7⟩
  have x7 : Ext H5 H7 := hg7.ext hx6 (by intro g e; cases e; exact hg6)
  rw [show ([9] : List UInt8) ++ encI 64 = [9, 128, 1] from by unfold encI; rw [encU_big (by decide), encU_small (by decide)]; rfl] at ho7
  obtain ⟨A7, c7, rfl, hc7, hr7, hb7⟩ := ho7.form
  refine seqN rfl rfl (nBuildSlice (vs := [.int _ _, .int _ _, .int _ _]) rfl Try.underlying29 Try.sizeOf5 Try.zeroValue5 rfl rfl rfl rfl) (fun g8 H8 hx8 hB8 hg8 hl8 => ?_)
  -- e slot 9: call F10<farandole/farandoleref01.Same> t7 t8
  refine seqE rfl rfl (stepCall rfl Try.call10 rfl ?_)
  refine (Same_c A7 (some ⟨g8, 0, none⟩) [9, 128, 1] [9, 128, 1] c7 3 H8 (hr7.ext hx8) (fun _ => ⟨_, rfl, fun j u hu => hB8.cell hu⟩)).mono ?_
  rintro v Hb ⟨hv, e⟩
  obtain rfl : v = .bool true := hv.trans (by simp)
  obtain rfl := e.symm
  clear e hv
  have hBv := ((hB5.ext x7).ext hx8)
  refine seqQ rfl rfl (yMove (v := .bool true) rfl rfl) ?_
  refine seqQ rfl rfl (yLoadB hBv rfl Try.underlying34 rfl Try.sizeOf34 rfl) ?_
  -- e slot 12: call F36<farandole/wire.Value> [nilslice:0:0] t11
  refine seqE rfl rfl (stepCall rfl Try.call36 rfl ?_)
  have x8 := x7.trans hx8
  refine (value_c (.slice none 0 0) ⟨2, 0, ⟨#[97]⟩⟩ H8.size [] H8 (Nat.le_refl _) (Own.nil _ _) ⟨⟨by decide, by decide⟩, ⟨by decide, by decide⟩, by decide⟩ (by simp)).mono ?_
  rintro v9 H9 ⟨ho9, hg9⟩
  have x9 : Ext H8 H9 := hg9.ext (Ext.refl _) (by intro g e; cases e)
  rw [show ([] : List UInt8) ++ encV ⟨2, 0, ⟨#[97]⟩⟩ = [4, 2, 97] from by
    have e1 : encI 2 = [4] := by unfold encI; rw [encU_small (by decide)]; rfl
    have e2 : encI 1 = [2] := by unfold encI; rw [encU_small (by decide)]; rfl
    show encI 2 ++ (encI 1 ++ [97]) = _
    rw [e1, e2]; rfl] at ho9
  obtain ⟨A9, c9, rfl, hc9, hr9, hb9⟩ := ho9.form
  refine seqN rfl rfl (nBuildSlice (vs := [.int _ _, .int _ _, .int _ _]) rfl Try.underlying29 Try.sizeOf5 Try.zeroValue5 rfl rfl rfl rfl) (fun g13 H13 hx13 hB13 hg13 hl13 => ?_)
  -- e slot 14: call F10<farandole/farandoleref01.Same> t12 t13
  refine seqE rfl rfl (stepCall rfl Try.call10 rfl ?_)
  refine (Same_c A9 (some ⟨g13, 0, none⟩) [4, 2, 97] [4, 2, 97] c9 3 H13 (hr9.ext hx13) (fun _ => ⟨_, rfl, fun j u hu => hB13.cell hu⟩)).mono ?_
  rintro v Hb ⟨hv, e⟩
  obtain rfl : v = .bool true := hv.trans (by simp)
  obtain rfl := e.symm
  clear e hv
  refine seqQ rfl rfl (yPickT (v := .bool _) rfl rfl rfl) ?_
  refine seqQ rfl rfl (yMove (v := .bool true) rfl rfl) ?_
  refine seqQ rfl rfl (yMove (v := .pointer _) rfl rfl) ?_
  refine seqQ rfl rfl (yNeqPN rfl Try.underlying44 rfl rfl) ?_
  refine seqQ rfl rfl (yPickT (v := .bool _) rfl rfl rfl) ?_
  refine seqQ rfl rfl (yMove (v := .bool true) rfl rfl) ?_
  refine seqQ rfl rfl (yMove (v := .pointer _) rfl rfl) ?_
  -- e slot 22: call F30<(*farandole/wire.Reader).Int> t21
  refine seqE rfl rfl (stepCall rfl Try.call30 rfl ?_)
  have r13 := ((r5.ext x8).ext x9).ext hx13
  refine (Int_c g B cB [128, 0] 0 false H13 r13).mono ?_
  rintro v H14 ⟨hK14, hc⟩
  rcases hc with ⟨a, k', hp, -⟩ | ⟨-, r14, rfl⟩
  · exact absurd hp (by rw [show prs rdI false [128, 0] 0 = none from rfl]; simp)
  refine seqQ rfl rfl (yEql rfl rfl rfl) ?_
  refine seqQ rfl rfl (yPickT (v := .bool _) rfl rfl rfl) ?_
  refine seqQ rfl rfl (yMove (v := .bool true) rfl rfl) ?_
  refine seqQ rfl rfl (yMove (v := .pointer _) rfl rfl) ?_
  -- e slot 27: call F29<(*farandole/wire.Reader).End> t26
  refine seqE rfl rfl (stepCall rfl Try.call29 rfl ?_)
  refine (End_c g B cB [128, 0] 0 true H14 r14).mono ?_
  rintro v Hb ⟨hv, e⟩
  obtain rfl : v = .int .i64 4 := hv.trans (by simp)
  obtain rfl := e.symm
  clear e hv
  refine seqQ rfl rfl (yEql rfl rfl rfl) ?_
  refine seqQ rfl rfl (yPickT (v := .bool _) rfl rfl rfl) ?_
  refine seqQ rfl rfl (yAssign (v := .bool _) rfl rfl) ?_
  refine seqNil ?_
  refine hF4 _ _ ?_; clear hF4
  -- ret
  refine wpRet (fin1 (v := .bool _) rfl rfl ?_)
  refine ⟨rfl, ?_⟩
  have s3 := hx3.size
  exact ((hx3.trans hx4).trans (((x5.trans x8).trans x9).trans hx13)).mine hK14 (by simp; omega)
end Go.Proofs.Ytnccbnjjnijbhaa
