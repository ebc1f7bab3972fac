/- PacketEncode: Valid, Encode, AckOf and Equal return the specified results for any packets. Conditions: none beyond the statement's. -/
import Derived.Test.YtohjmobnnjjekaaG3
import Derived.Test.YtohjmobnnjjekaaS8
namespace Go.Proofs.Ytohjmobnnjjekaa
open Go.ChangeShapes Go.WideShapes Go.ChangeAt Go.RowKit Go.Deep

set_option maxRecDepth 100000 in
theorem encP_1000 (p : Pk) (hp : N64 p) : (encP p).2.length ≤ 1000 := by
  by_cases h : ValidP p
  · rw [encP_len h]
    have hf := h.few
    have hv4 := hf.vl
    have hc6 := hf.cl
    have h1 := flat_le encI 10 (hdrs p) (fun y hy => encI_length (hdrs_ok hf y hy))
    have h2 := flat_le encV 60 (p.vals.map toV) (fun y hy => by
      obtain ⟨v, hv', rfl⟩ := List.mem_map.1 hy
      have hpr := hf.vs v hv'
      obtain ⟨k1, k2⟩ := hp v hv'
      have e1 := encI_length (n := v.1) k1
      have e2 := encI_length (n := v.2.1) k2
      unfold properB at hpr
      simp only [decide_eq_true_eq] at hpr
      have hs : v.2.2.size ≤ 40 := by
        rcases hpr with ⟨-, h⟩ | ⟨-, -, h⟩
        · rw [h]; decide
        · exact h
      have e3 := encI_length (P64_len (show v.2.2.size ≤ 1000000 by omega))
      unfold encV toV
      dsimp only
      rw [List.length_append]
      split
      · omega
      · split
        · unfold encBytes
          rw [List.length_append]
          change _ + ((encI (v.2.2.size : Int)).length + v.2.2.size) ≤ _
          omega
        · simp
          omega)
    have h3 := flat_le encI 10 p.clk (fun y hy => encI_length (seqB_ok (hf.cs y hy)))
    have e1 := encI_length (P64_len (show (p.vals.map toV).length ≤ 1000000 by rw [List.length_map]; omega))
    have e2 := encI_length (P64_len (show p.clk.length ≤ 1000000 by omega))
    have h7 : (hdrs p).length = 7 := rfl
    rw [List.length_map] at h2 e1
    unfold encPk encVals encInts
    simp only [List.length_append, List.length_map]
    omega
  · rw [encP_bad h]
    simp
set_option maxRecDepth 100000 in
theorem encode_walk (p q : Pk) (A B C D : Option Addr) (ca cb cc cd : Nat) (H : Heap) (hA : Rd eVal H A p.vals) (hB : Rd eInt H B p.clk) (hl : p.vals.length ≤ 9223372036854775807) (hp : N64 p) (hC : Rd eVal H C q.vals) (hD : Rd eInt H D q.clk) (hlq : q.vals.length ≤ 9223372036854775807) :
    CallsH Try.prog 3 [.agg (pkC p A ca B cb).toArray, .agg (pkC q C cc D cd).toArray] H fun v H' => v = .bool true ∧ Ext H H' := by
  refine callsH_of Try.func3 rfl Try.ntmps3 (Nat.le_of_ble_eq_true rfl) ?_
  refine wpSeq fun F1 hF1 => ?_
  refine wpRegion ?_
  refine seqN rfl rfl (nBoxA rfl rfl) (fun g2 H2 hx2 hB2 hg2 hl2 => ?_)
  refine seqN rfl rfl (nBoxA rfl rfl) (fun g3 H3 hx3 hB3 hg3 hl3 => ?_)
  refine seqQ rfl rfl (yAssign (v := .bool _) rfl rfl) ?_
  refine seqNil ?_
  refine hF1 _ _ ?_; clear hF1
  refine wpSeq fun F2 hF2 => ?_
  refine wpSeq fun F3 hF3 => ?_
  refine wpRegion ?_
  -- e slot 13: call F9<farandole/farandolelaw46.awake> 
  refine seqE rfl rfl (stepCall rfl Try.call9 rfl ?_)
  refine (pkAwake_c _).mono ?_
  rintro v Ha ⟨rfl, xa⟩
  have h2 := (hB2.ext hx3).ext xa
  have h3 := hB3.ext xa
  have hE := (hx2.trans hx3).trans xa
  clear hB2 hB3 hx2 hx3 xa
  refine seqQ rfl rfl (yNot rfl rfl) ?_
  refine seqNil ?_
  refine hF3 _ _ ?_; clear hF3
  -- if t14
  refine wpF rfl ?_
  refine wpSkip ?_
  refine hF2 _ _ ?_; clear hF2
  refine wpSeq fun F4 hF4 => ?_
  refine wpSeq fun F5 hF5 => ?_
  refine wpRegion ?_
  refine seqQ rfl rfl (yLoadB h2 rfl Try.underlying25 rfl Try.sizeOf25 rfl) ?_
  -- e slot 16: call F10<farandole/farandoleref46.Few> t15
  refine seqE rfl rfl (stepCall rfl Try.call10 rfl ?_)
  refine (few_c p A B ca cb Ha (hA.ext hE) hl).mono ?_
  rintro v Hb ⟨rfl, xb⟩
  replace h2 := h2.ext xb
  replace h3 := h3.ext xb
  replace hE := hE.trans xb
  clear xb
  refine seqQ rfl rfl (yNot rfl rfl) ?_
  -- guard t18
  refine seqGB rfl rfl rfl rfl (fun hf => ?_) (fun hf => ?_)
  · skip
    refine seqU rfl rfl ?_
    refine seqU rfl rfl ?_
    refine seqU rfl rfl ?_
    refine seqQ rfl rfl (yPickT (v := .bool _) rfl rfl rfl) ?_
    refine seqNil ?_
    refine hF5 _ _ ?_; clear hF5
    -- if t22
    refine wpT rfl ?_
    refine wpSeq fun F6 hF6 => ?_
    refine wpRegion ?_
    refine seqQ rfl rfl (yAssign (v := .bool _) rfl rfl) ?_
    refine seqNil ?_
    refine hF6 _ _ ?_; clear hF6
    -- ret
    refine wpRet (fin1 (v := .bool _) rfl rfl ?_)
    exact ⟨rfl, hE⟩
  · skip
    have hf : FewP p := by simpa using hf
    refine seqQ rfl rfl (yLoadB h3 rfl Try.underlying25 rfl Try.sizeOf25 rfl) ?_
    -- e slot 20: call F10<farandole/farandoleref46.Few> t19
    refine seqE rfl rfl (stepCall rfl Try.call10 rfl ?_)
    refine (few_c q C D cc cd Hb (hC.ext hE) hlq).mono ?_
    rintro v Hc ⟨rfl, xc⟩
    replace h2 := h2.ext xc
    replace h3 := h3.ext xc
    replace hE := hE.trans xc
    clear xc
    refine seqQ rfl rfl (yNot rfl rfl) ?_
    refine seqQ rfl rfl (yPickF (v := .bool _) rfl rfl rfl) ?_
    refine seqNil ?_
    refine hF5 _ _ ?_; clear hF5
    -- if t22
    refine wpCond rfl (fun hg => ?_) (fun hg => ?_)
    · skip
      refine wpSeq fun F7 hF7 => ?_
      refine wpRegion ?_
      refine seqQ rfl rfl (yAssign (v := .bool _) rfl rfl) ?_
      refine seqNil ?_
      refine hF7 _ _ ?_; clear hF7
      -- ret
      refine wpRet (fin1 (v := .bool _) rfl rfl ?_)
      exact ⟨rfl, hE⟩
    · skip
      have hg : FewP q := by simpa using hg
      have f1 := hf.2.1
      have f2 := hf.2.2
      refine wpSkip ?_
      refine hF4 _ _ ?_; clear hF4
      refine wpSeq fun F8 hF8 => ?_
      refine wpRegion ?_
      refine seqQ rfl rfl (yLoadB h2 rfl Try.underlying25 rfl Try.sizeOf25 rfl) ?_
      -- e slot 25: call F11<farandole/packet.Encode> t24
      refine seqE rfl rfl (stepCall rfl Try.call11 rfl ?_)
      refine (Encode_c p A B ca cb Hc (hA.ext hE) (hB.ext hE) hp (few_sz hf)).mono ?_
      rintro v Hd ⟨E1, ce, rfl, oe, xd⟩
      replace h2 := h2.ext xd
      replace h3 := h3.ext xd
      replace hE := hE.trans xd
      clear xd
      refine seqQ rfl rfl (yMove (v := .tuple _) rfl rfl) ?_
      refine seqQ rfl rfl (yExtract (v := .slice _ _ _) rfl rfl rfl) ?_
      refine seqQ rfl rfl (yExtract (v := .int _ _) rfl rfl rfl) ?_
      refine seqQ rfl rfl (yAssign (v := .slice _ _ _) rfl rfl) ?_
      refine seqQ rfl rfl (yAssign (v := .int _ _) rfl rfl) ?_
      refine seqNil ?_
      refine hF8 _ _ ?_; clear hF8
      refine wpSeq fun F9 hF9 => ?_
      refine wpRegion ?_
      refine seqQ rfl rfl (yLoadB h2 rfl Try.underlying25 rfl Try.sizeOf25 rfl) ?_
      -- e slot 30: call F12<farandole/farandoleref46.Encode> t29
      refine seqE rfl rfl (stepCall rfl Try.call12 rfl ?_)
      refine (rEncode_c p A B ca cb Hd (hA.ext hE) (hB.ext hE) hp (few_sz hf)).mono ?_
      rintro v He ⟨E2, cf, rfl, of, xe⟩
      replace h2 := h2.ext xe
      replace h3 := h3.ext xe
      replace hE := hE.trans xe
      have re := (Own.rd (oe.ext xe)).2
      have rf := (Own.rd of).2
      clear xe oe of
      refine seqQ rfl rfl (yMove (v := .tuple _) rfl rfl) ?_
      refine seqQ rfl rfl (yExtract (v := .slice _ _ _) rfl rfl rfl) ?_
      refine seqQ rfl rfl (yExtract (v := .int _ _) rfl rfl rfl) ?_
      refine seqQ rfl rfl (yAssign (v := .slice _ _ _) rfl rfl) ?_
      refine seqQ rfl rfl (yAssign (v := .int _ _) rfl rfl) ?_
      refine seqNil ?_
      refine hF9 _ _ ?_; clear hF9
      refine wpSeq fun F10 hF10 => ?_
      refine wpRegion ?_
      refine seqQ rfl rfl (yLoadB h2 rfl Try.underlying25 rfl Try.sizeOf25 rfl) ?_
      -- e slot 35: call F13<farandole/packet.AckOf> t34
      refine seqE rfl rfl (stepCall rfl Try.call13 rfl ?_)
      refine (AckOf_c p A B ca cb He (hA.ext hE) (hB.ext hE)).mono ?_
      rintro v Hf ⟨rfl, xf⟩
      refine seqQ rfl rfl (yMove (v := .tuple _) rfl rfl) ?_
      refine seqQ rfl rfl (yExtract (v := .agg _) rfl rfl rfl) ?_
      refine seqQ rfl rfl (yExtract (v := .int _ _) rfl rfl rfl) ?_
      refine seqN rfl rfl (nAlloc rfl Try.zeroValue32 rfl) (fun g9 H9 hx9 hB9 hg9 hl9 => ?_)
      -- e slot None: store T32 t9 t36
      refine seqE0 rfl rfl (stepStoreB rfl (by kernel_rfl) rfl rfl rfl hB9 rfl ?_)
      intro Hg h9 hKg
      have xg : Ext He Hg := (xf.trans hx9).mine hKg (by have := xf.size; simp; omega)
      replace h2 := h2.ext xg
      replace h3 := h3.ext xg
      replace hE := hE.trans xg
      replace re := re.ext xg
      replace rf := rf.ext xg
      clear xf hx9 hKg hB9 xg
      refine seqQ rfl rfl (yAssign (v := .int _ _) rfl rfl) ?_
      refine seqNil ?_
      refine hF10 _ _ ?_; clear hF10
      refine wpSeq fun F11 hF11 => ?_
      refine wpRegion ?_
      refine seqQ rfl rfl (yLoadB h2 rfl Try.underlying25 rfl Try.sizeOf25 rfl) ?_
      -- e slot 40: call F14<farandole/farandoleref46.AckOf> t39
      refine seqE rfl rfl (stepCall rfl Try.call14 rfl ?_)
      refine (rAckOf_c p A B ca cb Hg (hA.ext hE) (hB.ext hE)).mono ?_
      rintro v Hh ⟨rfl, xh⟩
      refine seqQ rfl rfl (yMove (v := .tuple _) rfl rfl) ?_
      refine seqQ rfl rfl (yExtract (v := .agg _) rfl rfl rfl) ?_
      refine seqQ rfl rfl (yExtract (v := .int _ _) rfl rfl rfl) ?_
      refine seqN rfl rfl (nAlloc rfl Try.zeroValue25 rfl) (fun g11 H11 hx11 hB11 hg11 hl11 => ?_)
      -- e slot None: store T25 t11 t41
      refine seqE0 rfl rfl (stepStoreB rfl (by kernel_rfl) rfl rfl rfl hB11 rfl ?_)
      intro Hi h11 hKi
      have xi : Ext Hg Hi := (xh.trans hx11).mine hKi (by have := xh.size; simp; omega)
      replace h2 := h2.ext xi
      replace h3 := h3.ext xi
      replace h9 := h9.ext xi
      replace hE := hE.trans xi
      replace re := re.ext xi
      replace rf := rf.ext xi
      clear xh hx11 hKi hB11 xi
      have hvl : (ackP p).2.vals = [] := by unfold ackP; split <;> rfl
      have hcl : (ackP p).2.clk = [] := by unfold ackP; split <;> rfl
      have e1000 := encP_1000 p hp
      refine seqQ rfl rfl (yAssign (v := .int _ _) rfl rfl) ?_
      refine seqNil ?_
      refine hF11 _ _ ?_; clear hF11
      refine wpSeq fun F12 hF12 => ?_
      refine wpSeq fun F13 hF13 => ?_
      refine wpRegion ?_
      refine seqQ rfl rfl (yMove (v := .slice _ _ _) rfl rfl) ?_
      refine seqQ rfl rfl (yBytesStr rfl Try.underlying28 Try.underlying9 Try.underlying5 rfl rfl re) ?_
      refine seqQ rfl rfl (yMove (v := .slice _ _ _) rfl rfl) ?_
      refine seqQ rfl rfl (yBytesStr rfl Try.underlying28 Try.underlying9 Try.underlying5 rfl rfl rf) ?_
      refine seqQ rfl rfl (yNeqS rfl rfl rfl) ?_
      -- guard t48
      rw [decide_eq_true (rfl : (⟨(encP p).2.toArray⟩ : ByteArray) = ⟨(encP p).2.toArray⟩)]
      refine seqQ rfl rfl (yMove (v := .bool false) rfl rfl) ?_
      refine seqQ rfl rfl (yMove (v := .int _ _) rfl rfl) ?_
      refine seqQ rfl rfl (yMove (v := .int _ _) rfl rfl) ?_
      refine seqQ rfl rfl (yNeq rfl rfl rfl) ?_
      refine seqQ rfl rfl (yPickF (v := .bool _) rfl rfl rfl) ?_
      -- guard t53
      rw [decide_eq_true (rfl : (encP p).1 = (encP p).1)]
      refine seqQ rfl rfl (yMove (v := .bool false) rfl rfl) ?_
      refine seqQ rfl rfl (yLoadB h9 rfl Try.underlying32 rfl Try.sizeOf32 rfl) ?_
      refine seqQ rfl rfl (yLoadB h11 rfl Try.underlying25 rfl Try.sizeOf25 rfl) ?_
      -- e slot 56: call F15<farandole/farandoleref46.Equal> t54 t55
      refine seqE rfl rfl (stepCall rfl Try.call15 rfl ?_)
      refine (rEqual_c (ackP p).2 (ackP p).2 none none none none 0 0 0 0 Hi (by rw [hvl]; exact Rd.nil _ _) (by rw [hcl]; exact Rd.nil _ _) (by rw [hvl]; exact Rd.nil _ _) (by rw [hcl]; exact Rd.nil _ _) (by rw [hvl]; simp) (by rw [hcl]; simp)).mono ?_
      rintro v Hj ⟨hv, xj⟩
      obtain rfl : v = .bool true := hv.trans (by simp)
      refine seqQ rfl rfl (yNot rfl rfl) ?_
      refine seqQ rfl rfl (yPickF (v := .bool _) rfl rfl rfl) ?_
      refine seqQ rfl rfl (yMove (v := .bool false) rfl rfl) ?_
      refine seqQ rfl rfl (yMove (v := .int _ _) rfl rfl) ?_
      refine seqQ rfl rfl (yMove (v := .int _ _) rfl rfl) ?_
      refine seqQ rfl rfl (yNeq rfl rfl rfl) ?_
      refine seqQ rfl rfl (yPickF (v := .bool _) rfl rfl rfl) ?_
      -- guard t64
      rw [decide_eq_true (rfl : (ackP p).1 = (ackP p).1)]
      refine seqQ rfl rfl (yMove (v := .bool false) rfl rfl) ?_
      refine seqQ rfl rfl (yMove (v := .slice _ _ _) rfl rfl) ?_
      refine seqQ rfl rfl (yLen rfl Try.underlying28 rfl) ?_
      refine seqQ rfl rfl (yGtr rfl rfl rfl) ?_
      refine seqQ rfl rfl (yPickF (v := .bool _) rfl rfl rfl) ?_
      refine seqNil ?_
      refine hF13 _ _ ?_; clear hF13
      -- if t68
      refine wpIf rfl (fun hbig => ?_) (fun hbig => ?_)
      · skip
        omega
      · skip
        replace h2 := h2.ext xj
        replace h3 := h3.ext xj
        replace hE := hE.trans xj
        clear xj h9 h11 re rf
        refine wpSkip ?_
        refine hF12 _ _ ?_; clear hF12
        refine wpSeq fun F14 hF14 => ?_
        refine wpRegionD Try_mixed [.q, .e, .q, .e, .q, .q, .q, .q, .e, .q, .q, .e, .q, .q, .q] 11 [0, 1, 0, 7, 15, 31, 63, 63, 255, 63, 63, 2047, 4095, 8191, 16383] [] (by kernel_rfl) _ rfl [0, 1, 2, 3, 4, 5, 6, 7, 8, 9, 10] rfl (by simp) ?_
        refine lexQ rfl rfl rfl rfl (fun H hM => (yLoadB (h2.ext hM.ext) rfl Try.underlying25 rfl Try.sizeOf25 rfl)) ?_
        -- e slot 70: call F16<farandole/packet.Valid> t69
        refine lexX0 rfl rfl rfl rfl rfl (by simp) (fun hM70 => stepCall rfl Try.call16 rfl ?_)
        refine (pkValid_c p A B ca cb Hj (hA.ext hE) (hB.ext hE)).mono ?_
        rintro v Hk ⟨rfl, xk⟩
        refine ⟨xk, fun _ => ?_⟩
        refine lexQ rfl rfl rfl rfl (fun H hM => (yLoadB (h2.ext hM.ext) rfl Try.underlying25 rfl Try.sizeOf25 rfl)) ?_
        -- e slot 72: call F17<farandole/farandoleref46.Valid> t71
        refine lexX0 rfl rfl rfl rfl rfl (by simp) (fun hM72 => stepCall rfl Try.call17 rfl ?_)
        refine (rValid_c p A B ca cb Hk ((hA.ext hE).ext xk) ((hB.ext hE).ext xk)).mono ?_
        rintro v Hl ⟨rfl, xl⟩
        refine ⟨xl, fun _ => ?_⟩
        replace xl := xk.trans xl
        refine lexQ rfl rfl rfl rfl (fun H hM => (yEqlB rfl Try.underlying4 rfl rfl)) ?_
        -- guard t74
        rw [beq_self_eq_true]
        refine lexQ rfl rfl rfl rfl (fun H hM => (yMove (v := .bool true) rfl rfl)) ?_
        refine lexQ rfl rfl rfl rfl (fun H hM => (yLoadB (h2.ext hM.ext) rfl Try.underlying25 rfl Try.sizeOf25 rfl)) ?_
        refine lexQ rfl rfl rfl rfl (fun H hM => (yLoadB (h3.ext hM.ext) rfl Try.underlying25 rfl Try.sizeOf25 rfl)) ?_
        -- e slot 77: call F18<farandole/packet.Equal> t75 t76
        refine lexX0 rfl rfl rfl rfl rfl (by simp) (fun hM77 => stepCall rfl Try.call18 rfl ?_)
        refine (pkEqual_c p q A B C D ca cb cc cd Hl ((hA.ext hE).ext xl) ((hB.ext hE).ext xl) ((hC.ext hE).ext xl) ((hD.ext hE).ext xl) (by omega) (by omega)).mono ?_
        rintro v Hm ⟨rfl, xm⟩
        refine ⟨xm, fun _ => ?_⟩
        replace xm := xl.trans xm
        refine lexQ rfl rfl rfl rfl (fun H hM => (yLoadB (h2.ext hM.ext) rfl Try.underlying25 rfl Try.sizeOf25 rfl)) ?_
        refine lexQ rfl rfl rfl rfl (fun H hM => (yLoadB (h3.ext hM.ext) rfl Try.underlying25 rfl Try.sizeOf25 rfl)) ?_
        -- tail
        refine lexNil0 rfl (fun hM => ?_)
        -- e slot 80: call F15<farandole/farandoleref46.Equal> t78 t79
        refine seqE rfl rfl (stepCall rfl Try.call15 rfl ?_)
        refine (rEqual_c p q A B C D ca cb cc cd Hm ((hA.ext hE).ext xm) ((hB.ext hE).ext xm) ((hC.ext hE).ext xm) ((hD.ext hE).ext xm) (by omega) (by omega)).mono ?_
        rintro v Hn ⟨rfl, xn⟩
        refine seqQ rfl rfl (yEqlB rfl Try.underlying4 rfl rfl) ?_
        refine seqQ rfl rfl (yPickT (v := .bool _) rfl rfl rfl) ?_
        refine seqQ rfl rfl (yAssign (v := .bool _) rfl rfl) ?_
        refine seqNil ?_
        refine hF14 _ _ ?_; clear hF14
        -- ret
        refine wpRet (fin1 (v := .bool _) rfl rfl ?_)
        exact ⟨by rw [beq_self_eq_true], (hE.trans xm).trans xn⟩
set_option maxRecDepth 100000 in
set_option maxRecDepth 100000 in
theorem packetEncode_lifted (os : Os) (started : os.Started) (H : Type) (enc : TypeId × Value → H) :
    ReturnsInHanded {} Try.checked os 3 .any (Rows.packetEncodeSpec.pre6 enc Try.prog Try.f3 Rows.packetEncodeRow.domain false) (Rows.packetEncodeSpec.post enc Try.prog Try.f3 false true false false) := by
  refine law_lifted started Rows.packetEncodeSpec rfl (by kernel_rfl) Try.func3 rfl
    (fun ds h => by match ds, h with | [_, _], _ => rfl) (of_decide_eq_true (by kernel_rfl))
    (ChangeSpec.witness6 (enc := enc) (C := Try.checked) false ⟨#[], #[.agg #[.int .i64 0, .int .i64 0, .int .i64 0, .int .i64 0, .int .i64 0, .int .i64 0, .int .i64 0, .slice none 0 0, .slice none 0 0], .agg #[.int .i64 0, .int .i64 0, .int .i64 0, .int .i64 0, .int .i64 0, .int .i64 0, .int .i64 0, .slice none 0 0, .slice none 0 0]], []⟩ 8 (by kernel_rfl) (by kernel_rfl) (by kernel_rfl) (by kernel_rfl)) ?_
  intro W base args ds p hval hA
  rw [Try.params3] at hA hval
  obtain ⟨v0, v1, d0, d1, p0, p1, rfl, rfl, rfl, h0, h1⟩ := trodAll_two hA
  have g0 := hval 0 _ v0 rfl rfl
  have g1 := hval 1 _ v1 rfl rfl
  obtain ⟨⟨p, ⟨A, ca⟩, ⟨B, cb⟩⟩, rfl, kA, kB, hl, hp⟩ := (opn_pk W).agg Try.underlying25 rfl g0 h0
  obtain ⟨⟨q, ⟨C, cc⟩, ⟨D, cd⟩⟩, rfl, kC, kD, hlq, -⟩ := (opn_pk W).agg Try.underlying25 rfl g1 h1
  exact encode_walk p q A B C D ca cb cc cd W.heap kA kB hl hp kC kD hlq
set_option maxRecDepth 100000 in
theorem packetEncode_holds : Rows.PacketEncodeSaid :=
  OpenClaim.holds_of_wide 3 Try.f3 rfl rfl rfl rfl rfl rfl rfl ⟨rfl, rfl, rfl, rfl, rfl⟩ rfl rfl rfl rfl rfl (by kernel_rfl) Try.func3 (by kernel_rfl)
    (of_decide_eq_true (by kernel_rfl)) (by unfold Func.isWrapper; first | (rw [if_pos (by decide +kernel)]; kernel_rfl) | (rw [if_neg (by decide +kernel)]; exact ⟨rfl, rfl⟩))
    (fun os started H enc _ => packetEncode_lifted os started H enc)
end Go.Proofs.Ytohjmobnnjjekaa
