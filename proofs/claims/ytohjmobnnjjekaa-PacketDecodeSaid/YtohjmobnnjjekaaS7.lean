/- PacketAck: the acknowledgement of a valid Data packet is valid, and two of the same session and ordered pair are equal only if the sequence numbers are. Conditions: none beyond the statement's. -/
import Derived.Test.YtohjmobnnjjekaaS6
import Derived.Test.YtohjmobnnjjekaaQ1
import Derived.Test.YtohjmobnnjjekaaLH
namespace Go.Proofs.Ytohjmobnnjjekaa
open Go.ChangeShapes Go.WideShapes Go.ChangeAt Go.RowKit Go.Deep

set_option maxRecDepth 100000 in
theorem ackP_ok {p : Pk} (h : p.kind = 1 ∧ ValidP p) : ackP p = (0, ⟨2, p.session, 0, p.src, p.dst, p.seq, 0, [], []⟩) := if_pos h
set_option maxRecDepth 100000 in
theorem ackP_no {p : Pk} (h : ¬ (p.kind = 1 ∧ ValidP p)) : ackP p = (1, pk0) := if_neg h
set_option maxRecDepth 100000 in
theorem ack_valid {p : Pk} (h : p.kind = 1 ∧ ValidP p) : ValidP ⟨2, p.session, 0, p.src, p.dst, p.seq, 0, [], []⟩ := by
  obtain ⟨hk, -, -, h3, h4, h5⟩ := h
  rw [if_pos hk] at h5
  exact ⟨show (1 : Int) ≤ 2 by decide, show (2 : Int) ≤ 4 by decide, h3, h4, h5.1, ⟨rfl, rfl, rfl⟩, rfl⟩
set_option maxRecDepth 100000 in
theorem ack_walk (p : Pk) (seq : Int) (A B : Option Addr) (ca cb : Nat) (H : Heap) (hA : Rd eVal H A p.vals) (hB : Rd eInt H B p.clk) (hl : p.vals.length ≤ 9223372036854775807) :
    CallsH Try.prog 7 [.agg (pkC p A ca B cb).toArray, .int .i64 seq] H fun v H' => v = .bool true ∧ Ext H H' := by
  refine callsH_of Try.func7 rfl Try.ntmps7 (Nat.le_of_ble_eq_true rfl) ?_
  refine wpSeq fun F1 hF1 => ?_
  refine wpRegion ?_
  refine seqN rfl rfl (nBoxA rfl rfl) (fun g2 H2 hx2 hB2 hg2 hl2 => ?_)
  refine seqQ rfl rfl (yAssign (v := .bool _) rfl rfl) ?_
  refine seqNil ?_
  refine hF1 _ _ ?_; clear hF1
  refine wpSeq fun F2 hF2 => ?_
  refine wpSeq fun F3 hF3 => ?_
  refine wpRegion ?_
  -- e slot 10: call F9<farandole/farandolelaw46.awake> 
  refine seqE rfl rfl (stepCall rfl Try.call9 rfl ?_)
  refine (pkAwake_c _).mono ?_
  rintro v Ha ⟨rfl, xa⟩
  have h2 := hB2.ext xa
  have hE := hx2.trans xa
  clear hB2 hx2 xa
  refine seqQ rfl rfl (yNot rfl rfl) ?_
  refine seqNil ?_
  refine hF3 _ _ ?_; clear hF3
  -- if t11
  refine wpF rfl ?_
  refine wpSkip ?_
  refine hF2 _ _ ?_; clear hF2
  refine wpSeq fun F4 hF4 => ?_
  refine wpSeq fun F5 hF5 => ?_
  refine wpRegion ?_
  refine seqQ rfl rfl (yLoadB h2 rfl Try.underlying25 rfl Try.sizeOf25 rfl) ?_
  -- e slot 13: call F10<farandole/farandoleref46.Few> t12
  refine seqE rfl rfl (stepCall rfl Try.call10 rfl ?_)
  refine (few_c p A B ca cb Ha (hA.ext hE) hl).mono ?_
  rintro v Hb ⟨rfl, xb⟩
  replace h2 := h2.ext xb
  replace hE := hE.trans xb
  clear xb
  refine seqQ rfl rfl (yNot rfl rfl) ?_
  refine seqNil ?_
  refine hF5 _ _ ?_; clear hF5
  -- if t14
  refine wpCond rfl (fun hf => ?_) (fun hf => ?_)
  · skip
    refine wpSeq fun F6 hF6 => ?_
    refine wpRegion ?_
    refine seqQ rfl rfl (yAssign (v := .bool _) rfl rfl) ?_
    refine seqNil ?_
    refine hF6 _ _ ?_; clear hF6
    -- ret
    refine wpRet (fin1 (v := .bool _) rfl rfl ?_)
    exact ⟨rfl, hE⟩
  · skip
    refine wpSkip ?_
    refine hF4 _ _ ?_; clear hF4
    refine wpSeq fun F7 hF7 => ?_
    refine wpRegion ?_
    refine seqQ rfl rfl (yLoadB h2 rfl Try.underlying25 rfl Try.sizeOf25 rfl) ?_
    refine seqN rfl rfl (nAlloc rfl Try.zeroValue25 rfl) (fun g5 H5 hx5 hB5 hg5 hl5 => ?_)
    -- e slot None: store T25 t5 t15
    refine seqE0 rfl rfl (stepStoreB rfl (by kernel_rfl) rfl rfl rfl hB5 rfl ?_)
    intro Hc hBc hKc
    have xc : Ext Hb Hc := hx5.mine hKc (by simp; omega)
    refine seqNil ?_
    refine hF7 _ _ ?_; clear hF7
    refine wpSeq fun F8 hF8 => ?_
    refine wpRegion ?_
    refine seqQ rfl rfl (yMove (v := .int _ _) rfl rfl) ?_
    refine seqQ rfl rfl (yFieldAddr rfl Try.underlying25 rfl Try.sizeOf3 rfl rfl) ?_
    -- e slot None: store T3 t17 t16
    refine seqE0 rfl rfl (stepStore rfl Try.sizeOf3 rfl rfl rfl rfl hBc (Nat.le_of_ble_eq_true rfl) ?_)
    intro Hd hBd hKd
    have xd : Ext Hb Hd := xc.mine hKd (by simp; omega)
    replace hBd : Blk Hd g5 (pkC { p with seq := seq } A ca B cb) 25 := hBd
    replace h2 := h2.ext xd
    replace hE := hE.trans xd
    clear xc hKc hKd hBc hB5 xd hx5
    refine seqNil ?_
    refine hF8 _ _ ?_; clear hF8
    refine wpSeq fun F9 hF9 => ?_
    refine wpRegion ?_
    refine seqQ rfl rfl (yLoadB h2 rfl Try.underlying25 rfl Try.sizeOf25 rfl) ?_
    -- e slot 20: call F13<farandole/packet.AckOf> t19
    refine seqE rfl rfl (stepCall rfl Try.call13 rfl ?_)
    refine (AckOf_c p A B ca cb Hd (hA.ext hE) (hB.ext hE)).mono ?_
    rintro v He ⟨rfl, xe⟩
    refine seqQ rfl rfl (yMove (v := .tuple _) rfl rfl) ?_
    refine seqQ rfl rfl (yExtract (v := .agg _) rfl rfl rfl) ?_
    refine seqQ rfl rfl (yExtract (v := .int _ _) rfl rfl rfl) ?_
    refine seqN rfl rfl (nAlloc rfl Try.zeroValue32 rfl) (fun g6 H6 hx6 hB6 hg6 hl6 => ?_)
    -- e slot None: store T32 t6 t21
    refine seqE0 rfl rfl (stepStoreB rfl (by kernel_rfl) rfl rfl rfl hB6 rfl ?_)
    intro Hf h6 hKf
    have xf : Ext Hd Hf := (xe.trans hx6).mine hKf (by have := xe.size; simp; omega)
    replace h2 := h2.ext xf
    replace hE := hE.trans xf
    replace hBd := hBd.ext xf
    clear xe hx6 hKf hB6 xf
    refine seqQ rfl rfl (yAssign (v := .int _ _) rfl rfl) ?_
    refine seqNil ?_
    refine hF9 _ _ ?_; clear hF9
    refine wpSeq fun F10 hF10 => ?_
    refine wpRegion ?_
    refine seqQ rfl rfl (yLoadB hBd rfl Try.underlying25 rfl Try.sizeOf25 rfl) ?_
    -- e slot 25: call F13<farandole/packet.AckOf> t24
    refine seqE rfl rfl (stepCall rfl Try.call13 rfl ?_)
    refine (AckOf_c { p with seq := seq } A B ca cb Hf (hA.ext hE) (hB.ext hE)).mono ?_
    rintro v Hg ⟨rfl, xg⟩
    refine seqQ rfl rfl (yMove (v := .tuple _) rfl rfl) ?_
    refine seqQ rfl rfl (yExtract (v := .agg _) rfl rfl rfl) ?_
    refine seqQ rfl rfl (yExtract (v := .int _ _) rfl rfl rfl) ?_
    refine seqN rfl rfl (nAlloc rfl Try.zeroValue32 rfl) (fun g8 H8 hx8 hB8 hg8 hl8 => ?_)
    -- e slot None: store T32 t8 t26
    refine seqE0 rfl rfl (stepStoreB rfl (by kernel_rfl) rfl rfl rfl hB8 rfl ?_)
    intro Hh h8 hKh
    have xh : Ext Hf Hh := (xg.trans hx8).mine hKh (by have := xg.size; simp; omega)
    replace h2 := h2.ext xh
    replace hE := hE.trans xh
    replace hBd := hBd.ext xh
    replace h6 := h6.ext xh
    clear xg hx8 hKh hB8 xh
    have nn := fun H => Rd.nil (c := eVal) H none
    have ni := fun H => Rd.nil (c := eInt) H none
    by_cases e1 : p.kind = 1 ∧ ValidP p
    · skip
      rw [ackP_ok e1] at h6 ⊢
      dsimp only at h6
      by_cases e2 : ({ p with seq := seq } : Pk).kind = 1 ∧ ValidP { p with seq := seq }
      · skip
        rw [ackP_ok e2] at h8 ⊢
        dsimp only at h8
        refine seqQ rfl rfl (yAssign (v := .int _ _) rfl rfl) ?_
        refine seqNil ?_
        refine hF10 _ _ ?_; clear hF10
        refine wpSeq fun F11 hF11 => ?_
        refine wpSeq fun F12 hF12 => ?_
        refine wpRegion ?_
        refine seqQ rfl rfl (yMove (v := .int _ _) rfl rfl) ?_
        refine seqQ rfl rfl (yNeq rfl rfl rfl) ?_
        refine seqQ rfl rfl (yMove (v := .bool false) rfl rfl) ?_
        refine seqQ rfl rfl (yMove (v := .int _ _) rfl rfl) ?_
        refine seqQ rfl rfl (yNeq rfl rfl rfl) ?_
        refine seqQ rfl rfl (yPickF (v := .bool _) rfl rfl rfl) ?_
        refine seqNil ?_
        refine hF12 _ _ ?_; clear hF12
        -- if t33
        refine wpF rfl ?_
        refine wpSkip ?_
        refine hF11 _ _ ?_; clear hF11
        refine wpSeq fun F13 hF13 => ?_
        refine wpRegionD Try_mixed [.q, .e, .q, .q, .q, .q, .q, .q, .q, .q, .q, .q, .q, .q, .q, .q, .q, .q, .q, .q, .q, .q, .q, .q, .q, .q, .q, .q, .q, .q, .q, .q, .q, .e, .q, .q, .q, .q, .q, .q, .q, .q] 39 [0, 1, 3, 7, 15, 7, 39, 127, 255, 511, 1023, 2047, 1023, 5119, 16383, 32767, 65535, 131071, 262143, 131071, 655359, 2097151, 4194303, 8388607, 16777215, 33554431, 16777215, 83886079, 268435455, 536870911, 1073741823, 2147483647, 2147483647, 8589934591, 2147483647, 19327352831, 2147483647, 70866960383, 259845521407, 549755813887, 1099511627775, 2199023255551] [] (by kernel_rfl) _ rfl [0, 1, 2, 3, 4, 5, 6, 7, 8, 9, 10, 11, 12, 13, 14, 15, 16, 17, 18, 19, 20, 21, 22, 23, 24, 25, 26, 27, 28, 29, 30, 31, 32, 33, 34, 35, 36, 37, 38] rfl (by simp) ?_
        refine lexQ rfl rfl rfl rfl (fun H hM => (yLoadB (h6.ext hM.ext) rfl Try.underlying32 rfl Try.sizeOf32 rfl)) ?_
        -- e slot 43: call F16<farandole/packet.Valid> t42
        refine lexX0 rfl rfl rfl rfl rfl (by simp) (fun hM43 => stepCall rfl Try.call16 rfl ?_)
        refine (pkValid_c ⟨2, p.session, 0, p.src, p.dst, p.seq, 0, [], []⟩ none none 0 0 Hh (nn Hh) (ni Hh)).mono ?_
        rintro v Hi ⟨hv, xi⟩
        obtain rfl : v = .bool true := hv.trans (by rw [decide_eq_true (ack_valid e1)])
        refine ⟨xi, fun _ => ?_⟩
        refine lexQ rfl rfl rfl rfl (fun H hM => (yMove (v := .bool true) rfl rfl)) ?_
        refine lexQ rfl rfl rfl rfl (fun H hM => (yFieldAddr rfl Try.underlying32 rfl Try.sizeOf3 rfl rfl)) ?_
        refine lexQ rfl rfl rfl rfl (fun H hM => (yLoad rfl Try.underlying3 rfl rfl (hM.ext.cell (h6.cell rfl)))) ?_
        refine lexQ rfl rfl rfl rfl (fun H hM => (yFieldAddr rfl Try.underlying25 rfl Try.sizeOf3 rfl rfl)) ?_
        refine lexQ rfl rfl rfl rfl (fun H hM => (yLoad rfl Try.underlying3 rfl rfl (hM.ext.cell (h2.cell rfl)))) ?_
        refine lexQ rfl rfl rfl rfl (fun H hM => (yEql rfl rfl rfl)) ?_
        refine lexQ rfl rfl rfl rfl (fun H hM => (yPickT (v := .bool _) rfl rfl rfl)) ?_
        -- guard t51
        refine lexG rfl rfl rfl rfl rfl rfl (fun hq0 => ?_) (fun hq0 => ?_)
        · skip
          refine lexQ rfl rfl rfl rfl (fun H hM => (yFieldAddr rfl Try.underlying32 rfl Try.sizeOf3 rfl rfl)) ?_
          refine lexQ rfl rfl rfl rfl (fun H hM => (yLoad rfl Try.underlying3 rfl rfl (hM.ext.cell (h6.cell rfl)))) ?_
          refine lexQ rfl rfl rfl rfl (fun H hM => (yFieldAddr rfl Try.underlying25 rfl Try.sizeOf3 rfl rfl)) ?_
          refine lexQ rfl rfl rfl rfl (fun H hM => (yLoad rfl Try.underlying3 rfl rfl (hM.ext.cell (h2.cell rfl)))) ?_
          refine lexQ rfl rfl rfl rfl (fun H hM => (yEql rfl rfl rfl)) ?_
          refine lexQ rfl rfl rfl rfl (fun H hM => (yPickT (v := .bool _) rfl rfl rfl)) ?_
          -- guard t58
          refine lexG rfl rfl rfl rfl rfl rfl (fun hq1 => ?_) (fun hq1 => ?_)
          · skip
            refine lexQ rfl rfl rfl rfl (fun H hM => (yFieldAddr rfl Try.underlying32 rfl Try.sizeOf3 rfl rfl)) ?_
            refine lexQ rfl rfl rfl rfl (fun H hM => (yLoad rfl Try.underlying3 rfl rfl (hM.ext.cell (h6.cell rfl)))) ?_
            refine lexQ rfl rfl rfl rfl (fun H hM => (yFieldAddr rfl Try.underlying25 rfl Try.sizeOf3 rfl rfl)) ?_
            refine lexQ rfl rfl rfl rfl (fun H hM => (yLoad rfl Try.underlying3 rfl rfl (hM.ext.cell (h2.cell rfl)))) ?_
            refine lexQ rfl rfl rfl rfl (fun H hM => (yEql rfl rfl rfl)) ?_
            refine lexQ rfl rfl rfl rfl (fun H hM => (yPickT (v := .bool _) rfl rfl rfl)) ?_
            -- guard t65
            refine lexG rfl rfl rfl rfl rfl rfl (fun hq2 => ?_) (fun hq2 => ?_)
            · skip
              refine lexQ rfl rfl rfl rfl (fun H hM => (yFieldAddr rfl Try.underlying32 rfl Try.sizeOf3 rfl rfl)) ?_
              refine lexQ rfl rfl rfl rfl (fun H hM => (yLoad rfl Try.underlying3 rfl rfl (hM.ext.cell (h6.cell rfl)))) ?_
              refine lexQ rfl rfl rfl rfl (fun H hM => (yFieldAddr rfl Try.underlying25 rfl Try.sizeOf3 rfl rfl)) ?_
              refine lexQ rfl rfl rfl rfl (fun H hM => (yLoad rfl Try.underlying3 rfl rfl (hM.ext.cell (h2.cell rfl)))) ?_
              refine lexQ rfl rfl rfl rfl (fun H hM => (yEql rfl rfl rfl)) ?_
              refine lexQ rfl rfl rfl rfl (fun H hM => (yPickT (v := .bool _) rfl rfl rfl)) ?_
              -- guard t72
              refine lexG rfl rfl rfl rfl rfl rfl (fun hq3 => ?_) (fun hq3 => ?_)
              · skip
                refine lexQ rfl rfl rfl rfl (fun H hM => (yLoadB (h6.ext hM.ext) rfl Try.underlying32 rfl Try.sizeOf32 rfl)) ?_
                refine lexQ rfl rfl rfl rfl (fun H hM => (yLoadB (h8.ext hM.ext) rfl Try.underlying32 rfl Try.sizeOf32 rfl)) ?_
                -- e slot 75: call F18<farandole/packet.Equal> t73 t74
                refine lexX0 rfl rfl rfl rfl rfl (by simp) (fun hM75 => stepCall rfl Try.call18 rfl ?_)
                refine (pkEqual_c ⟨2, p.session, 0, p.src, p.dst, p.seq, 0, [], []⟩ ⟨2, p.session, 0, p.src, p.dst, seq, 0, [], []⟩ none none none none 0 0 0 0 Hi (nn Hi) (ni Hi) (nn Hi) (ni Hi) (by simp) (by simp)).mono ?_
                rintro v Hj ⟨rfl, xj⟩
                refine ⟨xj, fun _ => ?_⟩
                refine lexQ rfl rfl rfl rfl (fun H hM => (yFieldAddr rfl Try.underlying25 rfl Try.sizeOf3 rfl rfl)) ?_
                refine lexQ rfl rfl rfl rfl (fun H hM => (yLoad rfl Try.underlying3 rfl rfl (hM.ext.cell (h2.cell rfl)))) ?_
                refine lexQ rfl rfl rfl rfl (fun H hM => (yFieldAddr rfl Try.underlying25 rfl Try.sizeOf3 rfl rfl)) ?_
                refine lexQ rfl rfl rfl rfl (fun H hM => (yLoad rfl Try.underlying3 rfl rfl (hM.ext.cell (hBd.cell rfl)))) ?_
                refine lexQ rfl rfl rfl rfl (fun H hM => (yEql rfl rfl rfl)) ?_
                -- tail
                refine lexNil0 rfl (fun hM => ?_)
                refine seqQ rfl rfl (yEqlB rfl Try.underlying4 rfl rfl) ?_
                refine seqQ rfl rfl (yPickT (v := .bool _) rfl rfl rfl) ?_
                refine seqQ rfl rfl (yAssign (v := .bool _) rfl rfl) ?_
                refine seqNil ?_
                refine hF13 _ _ ?_; clear hF13
                -- ret
                refine wpRet (fin1 (v := .bool _) rfl rfl ?_)
                refine ⟨?_, (hE.trans xi).trans xj⟩
                congr 1
                rw [Bool.eq_iff_iff]
                simp
              · skip
                exact absurd rfl hq3
            · skip
              exact absurd rfl hq2
          · skip
            exact absurd rfl hq1
        · skip
          exact absurd rfl hq0
      · skip
        rw [ackP_no e2] at h8 ⊢
        dsimp only at h8
        refine seqQ rfl rfl (yAssign (v := .int _ _) rfl rfl) ?_
        refine seqNil ?_
        refine hF10 _ _ ?_; clear hF10
        refine wpSeq fun F14 hF14 => ?_
        refine wpSeq fun F15 hF15 => ?_
        refine wpRegion ?_
        refine seqQ rfl rfl (yMove (v := .int _ _) rfl rfl) ?_
        refine seqQ rfl rfl (yNeq rfl rfl rfl) ?_
        refine seqQ rfl rfl (yMove (v := .bool false) rfl rfl) ?_
        refine seqQ rfl rfl (yMove (v := .int _ _) rfl rfl) ?_
        refine seqQ rfl rfl (yNeq rfl rfl rfl) ?_
        refine seqQ rfl rfl (yPickF (v := .bool _) rfl rfl rfl) ?_
        refine seqNil ?_
        refine hF15 _ _ ?_; clear hF15
        -- if t33
        refine wpT rfl ?_
        refine wpSeq fun F16 hF16 => ?_
        refine wpRegion ?_
        refine seqQ rfl rfl (yLoadB h6 rfl Try.underlying32 rfl Try.sizeOf32 rfl) ?_
        refine seqQ rfl rfl (yBuild (pl := [(0, 1), (1, 1), (2, 1), (3, 1), (4, 1), (5, 1), (6, 1), (7, 1), (8, 1)]) (vs := []) rfl Try.underlying32 Try.zeroValue32 rfl (by unfold Places; kernel_rfl) rfl rfl) ?_
        -- e slot 36: call F18<farandole/packet.Equal> t34 t35
        refine seqE rfl rfl (stepCall rfl Try.call18 rfl ?_)
        refine (pkEqual_c ⟨2, p.session, 0, p.src, p.dst, p.seq, 0, [], []⟩ pk0 none none none none 0 0 0 0 Hh (nn Hh) (ni Hh) (nn Hh) (ni Hh) (by simp) (by simp)).mono ?_
        rintro v Hi ⟨hv, xi⟩
        obtain rfl : v = .bool false := hv.trans (by rw [decide_eq_false (by simp [Pk.eq_iff, pk0])])
        refine seqQ rfl rfl (yMove (v := .bool false) rfl rfl) ?_
        refine seqQ rfl rfl (yLoadB (h8.ext xi) rfl Try.underlying32 rfl Try.sizeOf32 rfl) ?_
        refine seqQ rfl rfl (yBuild (pl := [(0, 1), (1, 1), (2, 1), (3, 1), (4, 1), (5, 1), (6, 1), (7, 1), (8, 1)]) (vs := []) rfl Try.underlying32 Try.zeroValue32 rfl (by unfold Places; kernel_rfl) rfl rfl) ?_
        -- e slot 40: call F18<farandole/packet.Equal> t38 t39
        refine seqE rfl rfl (stepCall rfl Try.call18 rfl ?_)
        refine (pkEqual_c pk0 pk0 none none none none 0 0 0 0 Hi (nn Hi) (ni Hi) (nn Hi) (ni Hi) (by decide) (by decide)).mono ?_
        rintro v Hj ⟨hv, xj⟩
        obtain rfl : v = .bool true := hv.trans (by simp)
        refine seqQ rfl rfl (yPickF (v := .bool _) rfl rfl rfl) ?_
        refine seqQ rfl rfl (yAssign (v := .bool _) rfl rfl) ?_
        refine seqNil ?_
        refine hF16 _ _ ?_; clear hF16
        -- ret
        refine wpRet (fin1 (v := .bool _) rfl rfl ?_)
        exact ⟨rfl, (hE.trans xi).trans xj⟩
    · skip
      rw [ackP_no e1] at h6 ⊢
      dsimp only at h6
      refine seqQ rfl rfl (yAssign (v := .int _ _) rfl rfl) ?_
      refine seqNil ?_
      refine hF10 _ _ ?_; clear hF10
      refine wpSeq fun F17 hF17 => ?_
      refine wpSeq fun F18 hF18 => ?_
      refine wpRegion ?_
      refine seqQ rfl rfl (yMove (v := .int _ _) rfl rfl) ?_
      refine seqQ rfl rfl (yNeq rfl rfl rfl) ?_
      refine seqQ rfl rfl (yMove (v := .bool true) rfl rfl) ?_
      refine seqU rfl rfl ?_
      refine seqU rfl rfl ?_
      refine seqQ rfl rfl (yPickT (v := .bool _) rfl rfl rfl) ?_
      refine seqNil ?_
      refine hF18 _ _ ?_; clear hF18
      -- if t33
      refine wpT rfl ?_
      refine wpSeq fun F19 hF19 => ?_
      refine wpRegion ?_
      refine seqQ rfl rfl (yLoadB h6 rfl Try.underlying32 rfl Try.sizeOf32 rfl) ?_
      refine seqQ rfl rfl (yBuild (pl := [(0, 1), (1, 1), (2, 1), (3, 1), (4, 1), (5, 1), (6, 1), (7, 1), (8, 1)]) (vs := []) rfl Try.underlying32 Try.zeroValue32 rfl (by unfold Places; kernel_rfl) rfl rfl) ?_
      -- e slot 36: call F18<farandole/packet.Equal> t34 t35
      refine seqE rfl rfl (stepCall rfl Try.call18 rfl ?_)
      refine (pkEqual_c pk0 pk0 none none none none 0 0 0 0 Hh (nn Hh) (ni Hh) (nn Hh) (ni Hh) (by decide) (by decide)).mono ?_
      rintro v Hi ⟨hv, xi⟩
      obtain rfl : v = .bool true := hv.trans (by simp)
      refine seqQ rfl rfl (yMove (v := .bool true) rfl rfl) ?_
      refine seqU rfl rfl ?_
      refine seqU rfl rfl ?_
      refine seqU rfl rfl ?_
      refine seqQ rfl rfl (yPickT (v := .bool _) rfl rfl rfl) ?_
      refine seqQ rfl rfl (yAssign (v := .bool _) rfl rfl) ?_
      refine seqNil ?_
      refine hF19 _ _ ?_; clear hF19
      -- ret
      refine wpRet (fin1 (v := .bool _) rfl rfl ?_)
      exact ⟨rfl, hE.trans xi⟩
set_option maxRecDepth 100000 in
theorem opn_val (W : World) : Opn Try.prog W 52 3 eVal.F (fun v => In64 v.1 ∧ In64 v.2.1) :=
  (opn_struct Try.underlying52 (by kernel_rfl) (opnF_cons rfl (opn_int Try.underlying3 (by kernel_rfl)) (opnF_cons rfl (opn_int Try.underlying3 (by kernel_rfl)) (opnF_cons rfl (opn_str Try.underlying9 (by kernel_rfl)) (opnF_nil rfl))))).map (fun a : Int × Int × ByteArray × Unit => (a.1, a.2.1, a.2.2.1)) (fun _ => rfl) (fun _ h => ⟨h.1, h.2.1⟩)
set_option maxRecDepth 100000 in
theorem opn_vals (W : World) : Opn Try.prog W 22 1 (fun a : Option Addr × Nat × List PVal => [.slice a.1 a.2.2.length a.2.1]) (fun a => Rd eVal W.heap a.1 a.2.2 ∧ (∀ x ∈ a.2.2, In64 x.1 ∧ In64 x.2.1) ∧ a.2.2.length ≤ a.2.1 ∧ a.2.1 ≤ maxLen) := opn_slice (c := eVal) Try.underlying22 (by kernel_rfl) (opn_val W)
set_option maxRecDepth 100000 in
theorem opn_ints (W : World) : Opn Try.prog W 23 1 (fun a : Option Addr × Nat × List Int => [.slice a.1 a.2.2.length a.2.1]) (fun a => Rd eInt W.heap a.1 a.2.2 ∧ (∀ x ∈ a.2.2, In64 x) ∧ a.2.2.length ≤ a.2.1 ∧ a.2.1 ≤ maxLen) := opn_slice (c := eInt) Try.underlying23 (by kernel_rfl) (opn_int Try.underlying3 (by kernel_rfl))
abbrev PkX := Pk × (Option Addr × Nat) × (Option Addr × Nat)
def PkOk (W : World) (x : PkX) : Prop := Rd eVal W.heap x.2.1.1 x.1.vals ∧ Rd eInt W.heap x.2.2.1 x.1.clk ∧ x.1.vals.length ≤ 9223372036854775807 ∧ N64 x.1
set_option maxRecDepth 100000 in
theorem opn_pk (W : World) : Opn Try.prog W 25 9 (fun x : PkX => pkC x.1 x.2.1.1 x.2.1.2 x.2.2.1 x.2.2.2) (PkOk W) :=
  (opn_struct Try.underlying25 (by kernel_rfl)
    (opnF_cons rfl (opn_int Try.underlying3 (by kernel_rfl)) (opnF_cons rfl (opn_int Try.underlying3 (by kernel_rfl)) (opnF_cons rfl (opn_int Try.underlying3 (by kernel_rfl)) (opnF_cons rfl (opn_int Try.underlying3 (by kernel_rfl)) (opnF_cons rfl (opn_int Try.underlying3 (by kernel_rfl))
    (opnF_cons rfl (opn_int Try.underlying3 (by kernel_rfl)) (opnF_cons rfl (opn_int Try.underlying3 (by kernel_rfl)) (opnF_cons rfl (opn_vals W) (opnF_cons rfl (opn_ints W) (opnF_nil rfl))))))))))).map
    (fun a => (⟨a.1, a.2.1, a.2.2.1, a.2.2.2.1, a.2.2.2.2.1, a.2.2.2.2.2.1, a.2.2.2.2.2.2.1, a.2.2.2.2.2.2.2.1.2.2, a.2.2.2.2.2.2.2.2.1.2.2⟩, (a.2.2.2.2.2.2.2.1.1, a.2.2.2.2.2.2.2.1.2.1), (a.2.2.2.2.2.2.2.2.1.1, a.2.2.2.2.2.2.2.2.1.2.1))) (fun _ => rfl)
    (fun a ha => ⟨ha.2.2.2.2.2.2.2.1.1, ha.2.2.2.2.2.2.2.2.1.1, by have h1 := ha.2.2.2.2.2.2.2.1.2.2.1; have h2 := ha.2.2.2.2.2.2.2.1.2.2.2; have h3 := Nat.le_trans h1 h2; unfold maxLen at h3; exact h3, ha.2.2.2.2.2.2.2.1.2.1⟩)
set_option maxRecDepth 100000 in
set_option maxRecDepth 100000 in
theorem packetAck_lifted (os : Os) (started : os.Started) (H : Type) (enc : TypeId × Value → H) :
    ReturnsInHanded {} Try.checked os 7 .any (Rows.packetAckSpec.pre6 enc Try.prog Try.f7 Rows.packetAckRow.domain false) (Rows.packetAckSpec.post enc Try.prog Try.f7 false true false false) := by
  refine law_lifted started Rows.packetAckSpec rfl (by kernel_rfl) Try.func7 rfl
    (fun ds h => by match ds, h with | [_, _], _ => rfl) (of_decide_eq_true (by kernel_rfl))
    (ChangeSpec.witness6 (enc := enc) (C := Try.checked) false ⟨#[], #[.agg #[.int .i64 0, .int .i64 0, .int .i64 0, .int .i64 0, .int .i64 0, .int .i64 0, .int .i64 0, .slice none 0 0, .slice none 0 0], .int .i64 0], []⟩ 8 (by kernel_rfl) (by kernel_rfl) (by kernel_rfl) (by kernel_rfl)) ?_
  intro W base args ds p hval hA
  rw [Try.params7] at hA hval
  obtain ⟨v0, v1, d0, d1, p0, p1, rfl, rfl, rfl, h0, h1⟩ := trodAll_two hA
  have g0 := hval 0 _ v0 rfl rfl
  have g1 := hval 1 _ v1 rfl rfl
  obtain ⟨⟨p, ⟨A, ca⟩, ⟨B, cb⟩⟩, rfl, kA, kB, hl, -⟩ := (opn_pk W).agg Try.underlying25 rfl g0 h0
  obtain ⟨seq, rfl, -⟩ := (opn_int (W := W) Try.underlying3 (by kernel_rfl)).one (one_int Try.underlying3 g1) h1
  exact ack_walk p seq A B ca cb W.heap kA kB hl
set_option maxRecDepth 100000 in
theorem packetAck_holds : Rows.PacketAckSaid :=
  OpenClaim.holds_of_wide 7 Try.f7 rfl rfl rfl rfl rfl rfl rfl ⟨rfl, rfl, rfl, rfl, rfl⟩ rfl rfl rfl rfl rfl (by kernel_rfl) Try.func7 (by kernel_rfl)
    (of_decide_eq_true (by kernel_rfl)) (by unfold Func.isWrapper; first | (rw [if_pos (by decide +kernel)]; kernel_rfl) | (rw [if_neg (by decide +kernel)]; exact ⟨rfl, rfl⟩))
    (fun os started H enc _ => packetAck_lifted os started H enc)
end Go.Proofs.Ytohjmobnnjjekaa
