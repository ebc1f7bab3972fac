/- Package packet: the document's example. -/
import Derived.Test.YtohjmobnnjjekaaS5
namespace Go.Proofs.Ytohjmobnnjjekaa
open Go.RowKit

def pkX : Pk := ⟨1, 5, 0, 0, 2, 1, 3, [], [1, 0, 0]⟩
set_option maxRecDepth 100000 in
theorem pkX_valid : ValidP pkX := by decide
set_option maxRecDepth 100000 in
theorem pkX_ack : ackP pkX = (0, ⟨2, 5, 0, 0, 2, 1, 0, [], []⟩) := if_pos ⟨rfl, pkX_valid⟩
set_option maxRecDepth 100000 in
theorem pkX_64 : N64 pkX := fun v hv => by cases hv
set_option maxRecDepth 100000 in
theorem pkAwake_c (H : Heap) : CallsH Try.prog 9 [] H fun v H' => v = .bool true ∧ Ext H H' := by
  refine callsH_of Try.func9 rfl Try.ntmps9 (Nat.le_of_ble_eq_true rfl) ?_
  refine wpSeq fun F1 hF1 => ?_
  refine wpRegion ?_
  refine seqQ rfl rfl (yAssign (v := .bool _) rfl rfl) ?_
  refine seqNil ?_
  refine hF1 _ _ ?_; clear hF1
  refine wpSeq fun F2 hF2 => ?_
  refine wpRegion ?_
  refine seqN rfl rfl (nBuildSlice (vs := [.int _ _, .int _ _, .int _ _]) rfl Try.underlying23 Try.sizeOf3 Try.zeroValue3 rfl rfl rfl rfl) (fun g8 H8 hx8 hB8 hg8 hl8 => ?_)
  refine seqQ rfl rfl (yBuild (pl := [(0, 1), (1, 1), (2, 1), (3, 1), (4, 1), (5, 1), (6, 1), (7, 1), (8, 1)]) (vs := [(0, .int _ _), (1, .int _ _), (4, .int _ _), (5, .int _ _), (6, .int _ _), (8, .slice _ _ _)]) rfl Try.underlying32 Try.zeroValue32 rfl (by unfold Places; kernel_rfl) rfl rfl) ?_
  refine seqN rfl rfl (nAlloc rfl Try.zeroValue32 rfl) (fun g1 H1 hx1 hB1 hg1 hl1 => ?_)
  -- e slot None: store T32 t1 t9
  refine seqE0 rfl rfl (stepStoreB rfl (by kernel_rfl) rfl rfl rfl hB1 rfl ?_)
  intro Ha hBa hKa
  have xa : Ext H Ha := (hx8.trans hx1).mine hKa (by have := hx8.size; simp; omega)
  have rC : Rd eInt Ha (some ⟨g8, 0, none⟩) pkX.clk := fun _ => ⟨_, rfl, fun j u hu => ((hB8.ext hx1).keep hKa (by have := hB8.lt; simp; omega)).cell hu⟩
  replace hBa : Blk Ha g1 (pkC pkX none 0 (some ⟨g8, 0, none⟩) 3) 32 := hBa
  clear hx8 hx1 hKa hB8 hB1
  refine seqNil ?_
  refine hF2 _ _ ?_; clear hF2
  refine wpSeq fun F3 hF3 => ?_
  refine wpRegion ?_
  refine seqQ rfl rfl (yLoadB hBa rfl Try.underlying32 rfl Try.sizeOf32 rfl) ?_
  -- e slot 12: call F13<farandole/packet.AckOf> t11
  refine seqE rfl rfl (stepCall rfl Try.call13 rfl ?_)
  refine (AckOf_c pkX none (some ⟨g8, 0, none⟩) 0 3 Ha (Rd.nil _ _) rC).mono ?_
  rintro v Hb ⟨hv, xb⟩
  rw [pkX_ack] at hv
  subst hv
  refine seqQ rfl rfl (yMove (v := .tuple _) rfl rfl) ?_
  refine seqQ rfl rfl (yExtract (v := .agg _) rfl rfl rfl) ?_
  refine seqQ rfl rfl (yExtract (v := .int _ _) rfl rfl rfl) ?_
  refine seqN rfl rfl (nAlloc rfl Try.zeroValue32 rfl) (fun g2 H2 hx2 hB2 hg2 hl2 => ?_)
  -- e slot None: store T32 t2 t13
  refine seqE0 rfl rfl (stepStoreB rfl (by kernel_rfl) rfl rfl rfl hB2 rfl ?_)
  intro Hc hB2 hKc
  have xc : Ext Ha Hc := (xb.trans hx2).mine hKc (by have := xb.size; simp; omega)
  replace hBa := hBa.ext xc
  clear xb hx2 hKc
  refine seqQ rfl rfl (yAssign (v := .int _ _) rfl rfl) ?_
  refine seqNil ?_
  refine hF3 _ _ ?_; clear hF3
  refine wpSeq fun F4 hF4 => ?_
  refine wpRegion ?_
  refine seqQ rfl rfl (yLoadB hBa rfl Try.underlying32 rfl Try.sizeOf32 rfl) ?_
  -- e slot 17: call F11<farandole/packet.Encode> t16
  refine seqE rfl rfl (stepCall rfl Try.call11 rfl ?_)
  refine (Encode_c pkX none (some ⟨g8, 0, none⟩) 0 3 Hc (Rd.nil _ _) (rC.ext xc) (fun v hv => by cases hv) (fun v hv => by cases hv)).mono ?_
  rintro v Hd ⟨C, cc, hv, od, xd⟩
  have hb1 := encPk_len pkX_valid (fun v hv => by cases hv)
  have hb2 := encP_len pkX_valid
  have e1 : (encP pkX).1 = 0 := by rw [encP_valid pkX_valid]
  rw [e1] at hv
  subst hv
  have hcc : (encP pkX).2.length ≤ cc := by
    obtain ⟨_, _, e, h, -⟩ := od.form
    cases e
    exact h
  have rd := (Own.rd od).2
  refine seqQ rfl rfl (yMove (v := .tuple _) rfl rfl) ?_
  refine seqQ rfl rfl (yExtract (v := .slice _ _ _) rfl rfl rfl) ?_
  refine seqQ rfl rfl (yExtract (v := .int _ _) rfl rfl rfl) ?_
  refine seqQ rfl rfl (yAssign (v := .slice _ _ _) rfl rfl) ?_
  refine seqQ rfl rfl (yAssign (v := .int _ _) rfl rfl) ?_
  refine seqNil ?_
  refine hF4 _ _ ?_; clear hF4
  refine wpSeq fun F5 hF5 => ?_
  refine wpRegion ?_
  refine seqQ rfl rfl (yMove (v := .slice _ _ _) rfl rfl) ?_
  -- e slot 22: call F19<farandole/packet.Decode> t21
  refine seqE rfl rfl (stepCall rfl Try.call19 rfl ?_)
  refine (Decode_c C cc (encP pkX).2 Hd rd hcc (by omega)).mono ?_
  rintro v He ⟨D, cd, E, ce, hv, ov, oc, xe⟩
  rw [dec_enc pkX_valid pkX_64] at hv ov oc
  subst hv
  refine seqQ rfl rfl (yMove (v := .tuple _) rfl rfl) ?_
  refine seqQ rfl rfl (yExtract (v := .agg _) rfl rfl rfl) ?_
  refine seqQ rfl rfl (yExtract (v := .int _ _) rfl rfl rfl) ?_
  refine seqN rfl rfl (nAlloc rfl Try.zeroValue32 rfl) (fun g6 H6 hx6 hB6 hg6 hl6 => ?_)
  -- e slot None: store T32 t6 t23
  refine seqE0 rfl rfl (stepStoreB rfl (by kernel_rfl) rfl rfl rfl hB6 rfl ?_)
  intro Hf hB6 hKf
  have xf : Ext He Hf := hx6.mine hKf (by simp; omega)
  have sd := xd.size
  have se := xe.size
  have xcf : Ext Hc Hf := (xd.trans xe).trans xf
  refine seqQ rfl rfl (yAssign (v := .int _ _) rfl rfl) ?_
  refine seqNil ?_
  refine hF5 _ _ ?_; clear hF5
  refine wpSeq fun F6 hF6 => ?_
  refine wpRegion ?_
  refine seqQ rfl rfl (yMove (v := .int _ _) rfl rfl) ?_
  refine seqQ rfl rfl (yEql rfl rfl rfl) ?_
  refine seqQ rfl rfl (yMove (v := .bool true) rfl rfl) ?_
  refine seqQ rfl rfl (yLoadB (hB2.ext xcf) rfl Try.underlying32 rfl Try.sizeOf32 rfl) ?_
  refine seqQ rfl rfl (yBuild (pl := [(0, 1), (1, 1), (2, 1), (3, 1), (4, 1), (5, 1), (6, 1), (7, 1), (8, 1)]) (vs := [(0, .int _ _), (1, .int _ _), (4, .int _ _), (5, .int _ _)]) rfl Try.underlying32 Try.zeroValue32 rfl (by unfold Places; kernel_rfl) rfl rfl) ?_
  -- e slot 30: call F18<farandole/packet.Equal> t28 t29
  refine seqE rfl rfl (stepCall rfl Try.call18 rfl ?_)
  refine (pkEqual_c ⟨2, 5, 0, 0, 2, 1, 0, [], []⟩ ⟨2, 5, 0, 0, 2, 1, 0, [], []⟩ none none none none 0 0 0 0 Hf (Rd.nil _ _) (Rd.nil _ _) (Rd.nil _ _) (Rd.nil _ _) (by decide) (by decide)).mono ?_
  rintro v Hg ⟨hv, xg⟩
  obtain rfl : v = .bool true := hv.trans (by simp)
  refine seqQ rfl rfl (yPickT (v := .bool _) rfl rfl rfl) ?_
  refine seqQ rfl rfl (yMove (v := .bool true) rfl rfl) ?_
  refine seqQ rfl rfl (yMove (v := .int _ _) rfl rfl) ?_
  refine seqQ rfl rfl (yEql rfl rfl rfl) ?_
  refine seqQ rfl rfl (yPickT (v := .bool _) rfl rfl rfl) ?_
  refine seqQ rfl rfl (yMove (v := .bool true) rfl rfl) ?_
  refine seqQ rfl rfl (yMove (v := .int _ _) rfl rfl) ?_
  refine seqQ rfl rfl (yEql rfl rfl rfl) ?_
  refine seqQ rfl rfl (yPickT (v := .bool _) rfl rfl rfl) ?_
  refine seqQ rfl rfl (yMove (v := .bool true) rfl rfl) ?_
  refine seqQ rfl rfl (yLoadB ((hBa.ext xcf).ext xg) rfl Try.underlying32 rfl Try.sizeOf32 rfl) ?_
  refine seqQ rfl rfl (yLoadB (hB6.ext xg) rfl Try.underlying32 rfl Try.sizeOf32 rfl) ?_
  -- e slot 43: call F18<farandole/packet.Equal> t41 t42
  refine seqE rfl rfl (stepCall rfl Try.call18 rfl ?_)
  have rx := xf.trans xg
  refine (pkEqual_c pkX pkX none (some ⟨g8, 0, none⟩) D E 0 3 cd ce Hg (Rd.nil _ _) ((rC.ext (xc.trans xcf)).ext xg) (Own.rd (ov.ext rx)).2 (Own.rd (oc.ext rx)).2 (by decide) (by decide)).mono ?_
  rintro v Hh ⟨hv, xh⟩
  obtain rfl : v = .bool true := hv.trans (by simp)
  refine seqQ rfl rfl (yPickT (v := .bool _) rfl rfl rfl) ?_
  refine seqQ rfl rfl (yMove (v := .bool true) rfl rfl) ?_
  refine seqQ rfl rfl (yMove (v := .slice _ _ _) rfl rfl) ?_
  refine seqQ rfl rfl (yLen rfl Try.underlying28 rfl) ?_
  refine seqQ rfl rfl (yGtr rfl rfl rfl) ?_
  refine seqQ rfl rfl (yPickT (v := .bool _) rfl rfl rfl) ?_
  refine seqQ rfl rfl (yAssign (v := .bool _) rfl rfl) ?_
  refine seqNil ?_
  refine hF6 _ _ ?_; clear hF6
  -- ret
  refine wpRet (fin1 (v := .bool _) rfl rfl ?_)
  refine ⟨?_, ((xa.trans (xc.trans xcf)).trans xg).trans xh⟩
  congr 1
  exact decide_eq_true (by omega)
end Go.Proofs.Ytohjmobnnjjekaa
