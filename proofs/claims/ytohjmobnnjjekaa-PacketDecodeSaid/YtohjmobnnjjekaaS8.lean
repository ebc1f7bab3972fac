/- PacketRoundTrip: every valid packet is decoded from its encoding; different valid packets have different encodings. Conditions: none beyond the statement's. -/
import Derived.Test.YtohjmobnnjjekaaS7
namespace Go.Proofs.Ytohjmobnnjjekaa
open Go.ChangeShapes Go.WideShapes Go.ChangeAt Go.RowKit Go.Deep

set_option maxRecDepth 100000 in
theorem enc_inj {p q : Pk} (hp : ValidP p) (hq : ValidP q) (h1 : N64 p) (h2 : N64 q) : ((encP p).2 = (encP q).2) ↔ p = q := by
  constructor
  · intro h
    have e1 := dec_enc hp h1
    rw [h, dec_enc hq h2] at e1
    exact (Prod.mk.inj e1).2.symm
  · rintro rfl
    rfl
set_option maxRecDepth 100000 in
theorem bytesEq2 (x y : List UInt8) : decide ((⟨x.toArray⟩ : ByteArray) = ⟨y.toArray⟩) = decide (x = y) := by
  apply decide_eq_decide.2
  constructor
  · intro h
    have := congrArg (fun b : ByteArray => b.data.toList) h
    simpa using this
  · rintro rfl
    rfl
set_option maxRecDepth 100000 in
theorem few_sz {p : Pk} (h : FewP p) : ∀ v ∈ p.vals, v.2.2.size ≤ 1000000 := fun v hv => by have := h.1 v hv; omega
set_option maxRecDepth 100000 in
theorem few_enc {p : Pk} (h : FewP p) (h64 : N64 p) : ∀ v ∈ p.vals, (encV (toV v)).length ≤ 140 := fun v hv => encV_140 (h64 v hv).1 (h64 v hv).2 (h.1 v hv)
set_option maxRecDepth 100000 in
theorem encP_few {p : Pk} (h : FewP p) (h64 : N64 p) : (encP p).2.length ≤ 5008 := by
  by_cases hv : ValidP p
  · have := encP_len hv
    have := (encPk_len hv (few_enc h h64)).2
    omega
  · rw [encP_bad hv]
    simp
set_option maxRecDepth 100000 in
theorem packTrip_walk (p q : Pk) (A B C D : Option Addr) (ca cb cc cd : Nat) (H : Heap) (hA : Rd eVal H A p.vals) (hB : Rd eInt H B p.clk) (hl : p.vals.length ≤ 9223372036854775807) (hp : N64 p) (hC : Rd eVal H C q.vals) (hD : Rd eInt H D q.clk) (hlq : q.vals.length ≤ 9223372036854775807) (hq : N64 q) :
    CallsH Try.prog 5 [.agg (pkC p A ca B cb).toArray, .agg (pkC q C cc D cd).toArray] H fun v H' => v = .bool true ∧ Ext H H' := by
  refine callsH_of Try.func5 rfl Try.ntmps5 (Nat.le_of_ble_eq_true rfl) ?_
  refine wpSeq fun F1 hF1 => ?_
  refine wpRegion ?_
  refine seqN rfl rfl (nBoxA rfl rfl) (fun g2 H2 hx2 hB2 hg2 hl2 => ?_)
  refine seqN rfl rfl (nBoxA rfl rfl) (fun g3 H3 hx3 hB3 hg3 hl3 => ?_)
  refine seqQ rfl rfl (yAssign (v := .bool _) rfl rfl) ?_
  refine seqNil ?_
  refine hF1 _ _ ?_; clear hF1
  refine wpSeq fun F2 hF2 => ?_
  refine wpSeq fun F3 hF3 => ?_
  refine wpRegion ?_
  -- e slot 11: call F9<farandole/farandolelaw46.awake> 
  refine seqE rfl rfl (stepCall rfl Try.call9 rfl ?_)
  refine (pkAwake_c _).mono ?_
  rintro v Ha ⟨rfl, xa⟩
  have h2 := (hB2.ext hx3).ext xa
  have h3 := hB3.ext xa
  have hE := (hx2.trans hx3).trans xa
  clear hB2 hB3 hx2 hx3 xa
  refine seqQ rfl rfl (yNot rfl rfl) ?_
  refine seqNil ?_
  refine hF3 _ _ ?_; clear hF3
  -- if t12
  refine wpF rfl ?_
  refine wpSkip ?_
  refine hF2 _ _ ?_; clear hF2
  refine wpSeq fun F4 hF4 => ?_
  refine wpSeq fun F5 hF5 => ?_
  refine wpRegion ?_
  refine seqQ rfl rfl (yLoadB h2 rfl Try.underlying25 rfl Try.sizeOf25 rfl) ?_
  -- e slot 14: call F10<farandole/farandoleref46.Few> t13
  refine seqE rfl rfl (stepCall rfl Try.call10 rfl ?_)
  refine (few_c p A B ca cb Ha (hA.ext hE) hl).mono ?_
  rintro v Hb ⟨rfl, xb⟩
  replace h2 := h2.ext xb
  replace h3 := h3.ext xb
  replace hE := hE.trans xb
  clear xb
  refine seqQ rfl rfl (yNot rfl rfl) ?_
  -- guard t16
  refine seqGB rfl rfl rfl rfl (fun hf => ?_) (fun hf => ?_)
  · skip
    refine seqU rfl rfl ?_
    refine seqU rfl rfl ?_
    refine seqU rfl rfl ?_
    refine seqQ rfl rfl (yPickT (v := .bool _) rfl rfl rfl) ?_
    refine seqNil ?_
    refine hF5 _ _ ?_; clear hF5
    -- if t20
    refine wpT rfl ?_
    refine wpSeq fun F6 hF6 => ?_
    refine wpRegion ?_
    refine seqQ rfl rfl (yAssign (v := .bool _) rfl rfl) ?_
    refine seqNil ?_
    refine hF6 _ _ ?_; clear hF6
    -- ret
    refine wpRet (fin1 (v := .bool _) rfl rfl ?_)
    exact ⟨rfl, hE⟩
  · skip
    have hf : FewP p := by simpa using hf
    refine seqQ rfl rfl (yLoadB h3 rfl Try.underlying25 rfl Try.sizeOf25 rfl) ?_
    -- e slot 18: call F10<farandole/farandoleref46.Few> t17
    refine seqE rfl rfl (stepCall rfl Try.call10 rfl ?_)
    refine (few_c q C D cc cd Hb (hC.ext hE) hlq).mono ?_
    rintro v Hc ⟨rfl, xc⟩
    replace h2 := h2.ext xc
    replace h3 := h3.ext xc
    replace hE := hE.trans xc
    clear xc
    refine seqQ rfl rfl (yNot rfl rfl) ?_
    refine seqQ rfl rfl (yPickF (v := .bool _) rfl rfl rfl) ?_
    refine seqNil ?_
    refine hF5 _ _ ?_; clear hF5
    -- if t20
    refine wpCond rfl (fun hf2 => ?_) (fun hf2 => ?_)
    · skip
      refine wpSeq fun F7 hF7 => ?_
      refine wpRegion ?_
      refine seqQ rfl rfl (yAssign (v := .bool _) rfl rfl) ?_
      refine seqNil ?_
      refine hF7 _ _ ?_; clear hF7
      -- ret
      refine wpRet (fin1 (v := .bool _) rfl rfl ?_)
      exact ⟨rfl, hE⟩
    · skip
      have hf2 : FewP q := by simpa using hf2
      refine wpSkip ?_
      refine hF4 _ _ ?_; clear hF4
      refine wpSeq fun F8 hF8 => ?_
      refine wpRegion ?_
      refine seqQ rfl rfl (yLoadB h2 rfl Try.underlying25 rfl Try.sizeOf25 rfl) ?_
      -- e slot 23: call F11<farandole/packet.Encode> t22
      refine seqE rfl rfl (stepCall rfl Try.call11 rfl ?_)
      refine (Encode_c p A B ca cb Hc (hA.ext hE) (hB.ext hE) hp (few_sz hf)).mono ?_
      rintro v Hd ⟨E1, ce, rfl, oe, xd⟩
      replace h2 := h2.ext xd
      replace h3 := h3.ext xd
      replace hE := hE.trans xd
      refine seqQ rfl rfl (yMove (v := .tuple _) rfl rfl) ?_
      refine seqQ rfl rfl (yExtract (v := .slice _ _ _) rfl rfl rfl) ?_
      refine seqQ rfl rfl (yExtract (v := .int _ _) rfl rfl rfl) ?_
      refine seqQ rfl rfl (yAssign (v := .slice _ _ _) rfl rfl) ?_
      refine seqQ rfl rfl (yAssign (v := .int _ _) rfl rfl) ?_
      refine seqNil ?_
      refine hF8 _ _ ?_; clear hF8
      refine wpSeq fun F9 hF9 => ?_
      refine wpRegion ?_
      refine seqQ rfl rfl (yLoadB h3 rfl Try.underlying25 rfl Try.sizeOf25 rfl) ?_
      -- e slot 28: call F11<farandole/packet.Encode> t27
      refine seqE rfl rfl (stepCall rfl Try.call11 rfl ?_)
      refine (Encode_c q C D cc cd Hd (hC.ext hE) (hD.ext hE) hq (few_sz hf2)).mono ?_
      rintro v He ⟨E2, cf, rfl, of, xe⟩
      replace h2 := h2.ext xe
      replace h3 := h3.ext xe
      replace hE := hE.trans xe
      replace oe := oe.ext xe
      clear xd xe
      refine seqQ rfl rfl (yMove (v := .tuple _) rfl rfl) ?_
      refine seqQ rfl rfl (yExtract (v := .slice _ _ _) rfl rfl rfl) ?_
      refine seqQ rfl rfl (yExtract (v := .int _ _) rfl rfl rfl) ?_
      refine seqQ rfl rfl (yAssign (v := .slice _ _ _) rfl rfl) ?_
      refine seqQ rfl rfl (yAssign (v := .int _ _) rfl rfl) ?_
      refine seqNil ?_
      refine hF9 _ _ ?_; clear hF9
      refine wpSeq fun F10 hF10 => ?_
      refine wpSeq fun F11 hF11 => ?_
      refine wpRegion ?_
      refine seqQ rfl rfl (yMove (v := .int _ _) rfl rfl) ?_
      refine seqQ rfl rfl (yNeq rfl rfl rfl) ?_
      -- guard t33
      by_cases e1 : ValidP p
      · skip
        have u1 : (encP p).1 = 0 := by rw [encP_valid e1]
        rw [u1]
        refine seqQ rfl rfl (yMove (v := .bool false) rfl rfl) ?_
        refine seqQ rfl rfl (yMove (v := .int _ _) rfl rfl) ?_
        refine seqQ rfl rfl (yNeq rfl rfl rfl) ?_
        refine seqQ rfl rfl (yPickF (v := .bool _) rfl rfl rfl) ?_
        refine seqNil ?_
        refine hF11 _ _ ?_; clear hF11
        -- if t36
        by_cases e2 : ValidP q
        · skip
          have u2 : (encP q).1 = 0 := by rw [encP_valid e2]
          rw [u2]
          -- if t36
          refine wpF rfl ?_
          refine wpSkip ?_
          refine hF10 _ _ ?_; clear hF10
          refine wpSeq fun F12 hF12 => ?_
          refine wpRegion ?_
          refine seqQ rfl rfl (yMove (v := .slice _ _ _) rfl rfl) ?_
          -- e slot 47: call F19<farandole/packet.Decode> t46
          refine seqE rfl rfl (stepCall rfl Try.call19 rfl ?_)
          have hce : (encP p).2.length ≤ ce := by
            obtain ⟨_, _, e, h, -⟩ := oe.form
            cases e
            exact h
          refine (Decode_c E1 ce (encP p).2 He (Own.rd oe).2 hce (by have := encP_few hf hp; omega)).mono ?_
          rintro v Hf ⟨F1, cg, F2, ch, hv, ov, oc, xf⟩
          rw [dec_enc e1 hp] at hv ov oc
          subst hv
          refine seqQ rfl rfl (yMove (v := .tuple _) rfl rfl) ?_
          refine seqQ rfl rfl (yExtract (v := .agg _) rfl rfl rfl) ?_
          refine seqQ rfl rfl (yExtract (v := .int _ _) rfl rfl rfl) ?_
          refine seqN rfl rfl (nAlloc rfl Try.zeroValue32 rfl) (fun g9 H9 hx9 hB9 hg9 hl9 => ?_)
          -- e slot None: store T32 t9 t48
          refine seqE0 rfl rfl (stepStoreB rfl (by kernel_rfl) rfl rfl rfl hB9 rfl ?_)
          intro Hg h9 hKg
          have xg : Ext Hf Hg := hx9.mine hKg (by simp; omega)
          replace h2 := (h2.ext xf).ext xg
          replace h3 := (h3.ext xf).ext xg
          replace hE := (hE.trans xf).trans xg
          have r1 := (Own.rd ((oe.ext xf).ext xg)).2
          have r2 := (Own.rd ((of.ext xf).ext xg)).2
          have r3 := (Own.rd (ov.ext xg)).2
          have r4 := (Own.rd (oc.ext xg)).2
          have v4 := e1.few.vl
          have c4 := e1.few.cl
          clear xf hx9 hKg hB9 xg oe of ov oc
          refine seqQ rfl rfl (yAssign (v := .int _ _) rfl rfl) ?_
          refine seqNil ?_
          refine hF12 _ _ ?_; clear hF12
          refine wpSeq fun F13 hF13 => ?_
          refine wpRegionD Try_mixed [.q, .q, .q, .q, .q, .e, .q, .q, .q, .q, .q, .q, .q, .q, .q, .e, .q, .q, .q] 16 [0, 1, 3, 7, 7, 31, 63, 127, 255, 511, 255, 1279, 4095, 255, 255, 24831, 65535, 131071, 262143] [] (by kernel_rfl) _ rfl [0, 1, 2, 3, 4, 5, 6, 7, 8, 9, 10, 11, 12, 13, 14, 15] rfl (by simp) ?_
          refine lexQ rfl rfl rfl rfl (fun H hM => (yMove (v := .int _ _) rfl rfl)) ?_
          refine lexQ rfl rfl rfl rfl (fun H hM => (yEql rfl rfl rfl)) ?_
          refine lexQ rfl rfl rfl rfl (fun H hM => (yMove (v := .bool true) rfl rfl)) ?_
          refine lexQ rfl rfl rfl rfl (fun H hM => (yLoadB (h9.ext hM.ext) rfl Try.underlying32 rfl Try.sizeOf32 rfl)) ?_
          refine lexQ rfl rfl rfl rfl (fun H hM => (yLoadB (h2.ext hM.ext) rfl Try.underlying25 rfl Try.sizeOf25 rfl)) ?_
          -- e slot 55: call F15<farandole/farandoleref46.Equal> t53 t54
          refine lexX0 rfl rfl rfl rfl rfl (by simp) (fun hM55 => stepCall rfl Try.call15 rfl ?_)
          refine (rEqual_c p p F1 F2 A B cg ch ca cb Hg r3 r4 (hA.ext hE) (hB.ext hE) (by omega) (by omega)).mono ?_
          rintro v Hh ⟨hv, xh⟩
          obtain rfl : v = .bool true := hv.trans (by simp)
          refine ⟨xh, fun _ => ?_⟩
          refine lexQ rfl rfl rfl rfl (fun H hM => (yPickT (v := .bool _) rfl rfl rfl)) ?_
          refine lexQ rfl rfl rfl rfl (fun H hM => (yMove (v := .bool true) rfl rfl)) ?_
          refine lexQ rfl rfl rfl rfl (fun H hM => (yMove (v := .slice _ _ _) rfl rfl)) ?_
          refine lexQ rfl rfl rfl rfl (fun H hM => (yBytesStr rfl Try.underlying28 Try.underlying9 Try.underlying5 rfl rfl (r1.ext hM.ext))) ?_
          refine lexQ rfl rfl rfl rfl (fun H hM => (yMove (v := .slice _ _ _) rfl rfl)) ?_
          refine lexQ rfl rfl rfl rfl (fun H hM => (yBytesStr rfl Try.underlying28 Try.underlying9 Try.underlying5 rfl rfl (r2.ext hM.ext))) ?_
          refine lexQ rfl rfl rfl rfl (fun H hM => (yEqlS rfl rfl rfl)) ?_
          refine lexQ rfl rfl rfl rfl (fun H hM => (yLoadB (h2.ext hM.ext) rfl Try.underlying25 rfl Try.sizeOf25 rfl)) ?_
          refine lexQ rfl rfl rfl rfl (fun H hM => (yLoadB (h3.ext hM.ext) rfl Try.underlying25 rfl Try.sizeOf25 rfl)) ?_
          -- e slot 65: call F15<farandole/farandoleref46.Equal> t63 t64
          refine lexX0 rfl rfl rfl rfl rfl (by simp) (fun hM65 => stepCall rfl Try.call15 rfl ?_)
          refine (rEqual_c p q A B C D ca cb cc cd Hh (hA.ext (hE.trans xh)) (hB.ext (hE.trans xh)) (hC.ext (hE.trans xh)) (hD.ext (hE.trans xh)) (by omega) (by omega)).mono ?_
          rintro v Hi ⟨rfl, xi⟩
          refine ⟨xi, fun _ => ?_⟩
          -- tail
          refine lexNil0 rfl (fun hM => ?_)
          refine seqQ rfl rfl (yEqlB rfl Try.underlying4 rfl rfl) ?_
          refine seqQ rfl rfl (yPickT (v := .bool _) rfl rfl rfl) ?_
          refine seqQ rfl rfl (yAssign (v := .bool _) rfl rfl) ?_
          refine seqNil ?_
          refine hF13 _ _ ?_; clear hF13
          -- ret
          refine wpRet (fin1 (v := .bool _) rfl rfl ?_)
          refine ⟨?_, (hE.trans xh).trans xi⟩
          congr 1
          rw [bytesEq2, show decide ((encP p).2 = (encP q).2) = decide (p = q) from decide_eq_decide.2 (enc_inj e1 e2 hp hq)]
          simp
        · skip
          have u2 : (encP q).1 = 1 := by rw [encP_bad e2]
          rw [u2]
          -- if t36
          refine wpT rfl ?_
          refine wpSeq fun F14 hF14 => ?_
          refine wpRegion ?_
          refine seqQ rfl rfl (yLoadB h2 rfl Try.underlying25 rfl Try.sizeOf25 rfl) ?_
          -- e slot 38: call F16<farandole/packet.Valid> t37
          refine seqE rfl rfl (stepCall rfl Try.call16 rfl ?_)
          refine (pkValid_c p A B ca cb He (hA.ext hE) (hB.ext hE)).mono ?_
          rintro v Hf ⟨hv, xf⟩
          obtain rfl : v = .bool true := hv.trans (by rw [decide_eq_true e1])
          refine seqQ rfl rfl (yNot rfl rfl) ?_
          refine seqQ rfl rfl (yMove (v := .bool false) rfl rfl) ?_
          refine seqQ rfl rfl (yLoadB (h3.ext xf) rfl Try.underlying25 rfl Try.sizeOf25 rfl) ?_
          -- e slot 42: call F16<farandole/packet.Valid> t41
          refine seqE rfl rfl (stepCall rfl Try.call16 rfl ?_)
          refine (pkValid_c q C D cc cd Hf (hC.ext (hE.trans xf)) (hD.ext (hE.trans xf))).mono ?_
          rintro v Hg ⟨hv, xg⟩
          obtain rfl : v = .bool false := hv.trans (by rw [decide_eq_false e2])
          refine seqQ rfl rfl (yNot rfl rfl) ?_
          refine seqQ rfl rfl (yPickF (v := .bool _) rfl rfl rfl) ?_
          refine seqQ rfl rfl (yAssign (v := .bool _) rfl rfl) ?_
          refine seqNil ?_
          refine hF14 _ _ ?_; clear hF14
          -- ret
          refine wpRet (fin1 (v := .bool _) rfl rfl ?_)
          exact ⟨rfl, (hE.trans xf).trans xg⟩
      · skip
        have u1 : (encP p).1 = 1 := by rw [encP_bad e1]
        rw [u1]
        refine seqQ rfl rfl (yMove (v := .bool true) rfl rfl) ?_
        refine seqU rfl rfl ?_
        refine seqU rfl rfl ?_
        refine seqQ rfl rfl (yPickT (v := .bool _) rfl rfl rfl) ?_
        refine seqNil ?_
        refine hF11 _ _ ?_; clear hF11
        -- if t36
        refine wpT rfl ?_
        refine wpSeq fun F15 hF15 => ?_
        refine wpRegion ?_
        refine seqQ rfl rfl (yLoadB h2 rfl Try.underlying25 rfl Try.sizeOf25 rfl) ?_
        -- e slot 38: call F16<farandole/packet.Valid> t37
        refine seqE rfl rfl (stepCall rfl Try.call16 rfl ?_)
        refine (pkValid_c p A B ca cb He (hA.ext hE) (hB.ext hE)).mono ?_
        rintro v Hf ⟨hv, xf⟩
        obtain rfl : v = .bool false := hv.trans (by rw [decide_eq_false e1])
        refine seqQ rfl rfl (yNot rfl rfl) ?_
        refine seqQ rfl rfl (yMove (v := .bool true) rfl rfl) ?_
        refine seqU rfl rfl ?_
        refine seqU rfl rfl ?_
        refine seqU rfl rfl ?_
        refine seqQ rfl rfl (yPickT (v := .bool _) rfl rfl rfl) ?_
        refine seqQ rfl rfl (yAssign (v := .bool _) rfl rfl) ?_
        refine seqNil ?_
        refine hF15 _ _ ?_; clear hF15
        -- ret
        refine wpRet (fin1 (v := .bool _) rfl rfl ?_)
        exact ⟨rfl, hE.trans xf⟩
set_option maxRecDepth 100000 in
set_option maxRecDepth 100000 in
theorem packetRoundTrip_lifted (os : Os) (started : os.Started) (H : Type) (enc : TypeId × Value → H) :
    ReturnsInHanded {} Try.checked os 5 .any (Rows.packetRoundTripSpec.pre6 enc Try.prog Try.f5 Rows.packetRoundTripRow.domain false) (Rows.packetRoundTripSpec.post enc Try.prog Try.f5 false true false false) := by
  refine law_lifted started Rows.packetRoundTripSpec rfl (by kernel_rfl) Try.func5 rfl
    (fun ds h => by match ds, h with | [_, _], _ => rfl) (of_decide_eq_true (by kernel_rfl))
    (ChangeSpec.witness6 (enc := enc) (C := Try.checked) false ⟨#[], #[.agg #[.int .i64 0, .int .i64 0, .int .i64 0, .int .i64 0, .int .i64 0, .int .i64 0, .int .i64 0, .slice none 0 0, .slice none 0 0], .agg #[.int .i64 0, .int .i64 0, .int .i64 0, .int .i64 0, .int .i64 0, .int .i64 0, .int .i64 0, .slice none 0 0, .slice none 0 0]], []⟩ 8 (by kernel_rfl) (by kernel_rfl) (by kernel_rfl) (by kernel_rfl)) ?_
  intro W base args ds p hval hA
  rw [Try.params5] at hA hval
  obtain ⟨v0, v1, d0, d1, p0, p1, rfl, rfl, rfl, h0, h1⟩ := trodAll_two hA
  have g0 := hval 0 _ v0 rfl rfl
  have g1 := hval 1 _ v1 rfl rfl
  obtain ⟨⟨p, ⟨A, ca⟩, ⟨B, cb⟩⟩, rfl, kA, kB, hl, hp⟩ := (opn_pk W).agg Try.underlying25 rfl g0 h0
  obtain ⟨⟨q, ⟨C, cc⟩, ⟨D, cd⟩⟩, rfl, kC, kD, hlq, hq⟩ := (opn_pk W).agg Try.underlying25 rfl g1 h1
  exact packTrip_walk p q A B C D ca cb cc cd W.heap kA kB hl hp kC kD hlq hq
set_option maxRecDepth 100000 in
theorem packetRoundTrip_holds : Rows.PacketRoundTripSaid :=
  OpenClaim.holds_of_wide 5 Try.f5 rfl rfl rfl rfl rfl rfl rfl ⟨rfl, rfl, rfl, rfl, rfl⟩ rfl rfl rfl rfl rfl (by kernel_rfl) Try.func5 (by kernel_rfl)
    (of_decide_eq_true (by kernel_rfl)) (by unfold Func.isWrapper; first | (rw [if_pos (by decide +kernel)]; kernel_rfl) | (rw [if_neg (by decide +kernel)]; exact ⟨rfl, rfl⟩))
    (fun os started H enc _ => packetRoundTrip_lifted os started H enc)
end Go.Proofs.Ytohjmobnnjjekaa
