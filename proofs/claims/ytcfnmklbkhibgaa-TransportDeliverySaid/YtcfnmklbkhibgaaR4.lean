/- The first check of the statements of layer 50; TransportBackoff. -/
import Derived.Test.YtcfnmklbkhibgaaR3
import Derived.Test.YtcfnmklbkhibgaaLH
namespace Go.Proofs.Ytcfnmklbkhibgaa
open Go.ChangeShapes Go.WideShapes Go.ChangeAt Go.RowKit Go.Deep

set_option maxRecDepth 100000 in
theorem offer_msg (n now : Int) (hn : 0 ≤ n ∧ n < 40) (ht : TimeP now) : offerF sd1 (msg n) now = (0, ⟨2, true, msg n, now + 8, 1⟩, msg n) := by
  have hv : ValidP (msg n) := by
    unfold ValidP DataP NumP
    simp [msg, hn]
  have hs : SdP sd1 := by unfold SdP sd1; decide
  have e : ({ msg n with seq := sd1.next } : Pk) = msg n := rfl
  unfold offerF
  rw [if_neg (by simp [hs, ht]), if_neg (by simp [sd1]), if_neg (by simp [sd1]), e, if_neg (fun h => h.elim (fun h => h rfl) (fun h => h hv))]
  rfl
set_option maxRecDepth 100000 in
theorem resend_msg (n due tries now : Int) (hn : 0 ≤ n ∧ n < 40) (ht : TimeP now) (hd : 0 ≤ due ∧ due ≤ 2199023255552) (hr : 1 ≤ tries ∧ tries < 1099511627776) :
    resendF ⟨2, true, msg n, due, tries⟩ now = if due ≤ now then (⟨2, true, msg n, now + min (ivl (tries + 1)) 64, tries + 1⟩, msg n, true) else (⟨2, true, msg n, due, tries⟩, pk0, false) := by
  have hv : ValidP (msg n) := by
    unfold ValidP DataP NumP
    simp [msg, hn]
  have hs : SdP ⟨2, true, msg n, due, tries⟩ := by
    unfold SdP
    refine ⟨by show (1 : Int) ≤ 2; decide, by show (2 : Int) ≤ 1099511627777; decide, ?_⟩
    rw [if_pos rfl]
    exact ⟨rfl, hv, rfl, hd.1, hd.2, hr.1, by show tries ≤ _; omega⟩
  unfold resendF
  by_cases h : due ≤ now
  · rw [if_pos h, if_pos ⟨hs, ht, rfl, h, by show tries ≠ _; omega⟩]
  · rw [if_neg h, if_neg (fun hd => h hd.2.2.2.1)]
set_option maxRecDepth 100000 in
theorem tpAwake_c (H : Heap) : CallsH Try.prog 7 [] H fun v H' => v = .bool true ∧ Ext H H' := by
  have f1 : offerF sd1 (msg 3) 0 = (0, ⟨2, true, msg 3, 8, 1⟩, msg 3) := offer_msg 3 0 (by omega) (by unfold TimeP; omega)
  have f2 : resendF ⟨2, true, msg 3, 8, 1⟩ 7 = (⟨2, true, msg 3, 8, 1⟩, pk0, false) := resend_msg 3 8 1 7 (by omega) (by unfold TimeP; omega) (by omega) (by omega)
  have f3 : resendF ⟨2, true, msg 3, 8, 1⟩ 8 = (⟨2, true, msg 3, 24, 2⟩, msg 3, true) := resend_msg 3 8 1 8 (by omega) (by unfold TimeP; omega) (by omega) (by omega)
  refine callsH_of Try.func7 rfl Try.ntmps7 (Nat.le_of_ble_eq_true rfl) ?_
  refine wpSeq fun F1 hF1 => ?_
  refine wpRegion ?_
  refine seqQ rfl rfl (yAssign (v := .bool _) rfl rfl) ?_
  refine seqNil ?_
  refine hF1 _ _ ?_; clear hF1
  refine wpSeq fun F2 hF2 => ?_
  refine wpRegion ?_
  -- e slot 14: call F9<farandole/transport.Start> 
  refine seqE rfl rfl (stepCall rfl Try.call9 rfl ?_)
  refine (start_c _).mono ?_
  rintro v H1 ⟨rfl, hx1⟩
  -- e slot 15: call F10<farandole/farandolelaw50.message> [i:i64:3]
  refine seqE rfl rfl (stepCall rfl Try.call10 rfl ?_)
  refine (message_c 3 _).mono ?_
  rintro v H2 ⟨rfl, hx2⟩
  -- e slot 16: call F8<farandole/transport.Offer> t14 t15 [i:i64:0]
  refine seqE rfl rfl (stepCall rfl Try.call8 rfl ?_)
  refine (offer_c sd1 (msg 3) 0 none none none none 0 0 0 0 _ (Rd.nil _ _) (Rd.nil _ _) (Rd.nil _ _) (Rd.nil _ _) (by decide) (by decide) (by decide) (by decide)).mono ?_
  rintro v H3 ⟨vs, vp, rfl, hs, hp, hx3⟩
  rw [f1] at hs hp ⊢
  obtain ⟨A, ca, B, cb, rfl, -, -⟩ := hs
  obtain ⟨C, cc, D, cd, rfl, -, -⟩ := hp
  have hE := (hx1.trans hx2).trans hx3
  have s1 := hx1.size
  have s2 := hx2.size
  have s3 := hx3.size
  clear hx1 hx2 hx3
  refine seqQ rfl rfl (yMove (v := .tuple _) rfl rfl) ?_
  refine seqQ rfl rfl (yExtract (v := .agg _) rfl rfl rfl) ?_
  refine seqQ rfl rfl (yExtract (v := .agg _) rfl rfl rfl) ?_
  refine seqQ rfl rfl (yExtract (v := .int _ _) rfl rfl rfl) ?_
  refine seqN rfl rfl (nAlloc rfl Try.zeroValue29 rfl) (fun g1 H1 hx1 hB1 hg1 hl1 => ?_)
  refine seqN rfl rfl (nAlloc rfl Try.zeroValue27 rfl) (fun g2 H2 hx2 hB2 hg2 hl2 => ?_)
  -- e slot None: store T29 t1 t17
  refine seqE0 rfl rfl (stepStoreB rfl (by kernel_rfl) rfl rfl rfl (hB1.ext hx2) rfl ?_)
  intro Ha hBa hKa
  -- e slot None: store T27 t2 t18
  refine seqE0 rfl rfl (stepStoreB rfl (by kernel_rfl) rfl rfl rfl (hB2.keep hKa (by simp; omega)) rfl ?_)
  intro Hb hBb hKb
  have t1 := hx1.size
  have t2 := hx2.size
  have ta := hKa.size
  have tb := hKb.size
  replace hBa := hBa.keep hKb (by simp; omega)
  replace hE := (((hE.trans hx1).trans hx2).mine hKa (by simp; omega)).mine hKb (by simp; omega)
  clear hx1 hx2 hB1 hB2 hKa hKb
  refine seqQ rfl rfl (yAssign (v := .int _ _) rfl rfl) ?_
  refine seqNil ?_
  refine hF2 _ _ ?_; clear hF2
  refine wpSeq fun F3 hF3 => ?_
  refine wpRegion ?_
  refine seqQ rfl rfl (yLoadB hBa rfl Try.underlying29 rfl Try.sizeOf29 rfl) ?_
  -- e slot 22: call F11<farandole/transport.Resend> t21 [i:i64:7]
  refine seqE rfl rfl (stepCall rfl Try.call11 rfl ?_)
  refine (resend_c ⟨2, true, msg 3, 8, 1⟩ 7 A B ca cb _ (Rd.nil _ _) (Rd.nil _ _) (by decide) (by decide)).mono ?_
  rintro v Hc ⟨vs, vp, rfl, hs, hp, hxc⟩
  rw [f2] at hs hp ⊢
  obtain ⟨A2, ca2, B2, cb2, rfl, -, -⟩ := hs
  obtain ⟨C2, cc2, D2, cd2, rfl, -, -⟩ := hp
  replace hBa := hBa.ext hxc
  replace hBb := hBb.ext hxc
  replace hE := hE.trans hxc
  have tc := hxc.size
  clear hxc
  refine seqQ rfl rfl (yMove (v := .tuple _) rfl rfl) ?_
  refine seqQ rfl rfl (yExtract (v := .agg _) rfl rfl rfl) ?_
  refine seqQ rfl rfl (yExtract (v := .agg _) rfl rfl rfl) ?_
  refine seqQ rfl rfl (yExtract (v := .bool _) rfl rfl rfl) ?_
  refine seqN rfl rfl (nAlloc rfl Try.zeroValue29 rfl) (fun g4 H4 hx4 hB4 hg4 hl4 => ?_)
  refine seqN rfl rfl (nAlloc rfl Try.zeroValue27 rfl) (fun g5 H5 hx5 hB5 hg5 hl5 => ?_)
  -- e slot None: store T29 t4 t23
  refine seqE0 rfl rfl (stepStoreB rfl (by kernel_rfl) rfl rfl rfl (hB4.ext hx5) rfl ?_)
  intro Hd hBd hKd
  have hK5 := hB5.keep hKd (by simp; omega)
  -- e slot None: store T27 t5 t24
  refine seqE0 rfl rfl (stepStoreB rfl (by kernel_rfl) rfl rfl rfl hK5 rfl ?_)
  intro He hBe hKe
  have t4 := hx4.size
  have t5 := hx5.size
  have td := hKd.size
  have te := hKe.size
  replace hBd := hBd.keep hKe (by simp; omega)
  replace hBb := (((hBb.ext hx4).ext hx5).keep hKd (by simp; omega)).keep hKe (by simp; omega)
  replace hE := (((hE.trans hx4).trans hx5).mine hKd (by simp; omega)).mine hKe (by simp; omega)
  clear hx4 hx5 hB4 hB5 hK5 hKd hKe hBa hBe
  refine seqQ rfl rfl (yAssign (v := .bool _) rfl rfl) ?_
  refine seqNil ?_
  refine hF3 _ _ ?_; clear hF3
  refine wpSeq fun F4 hF4 => ?_
  refine wpRegion ?_
  refine seqQ rfl rfl (yLoadB hBd rfl Try.underlying29 rfl Try.sizeOf29 rfl) ?_
  -- e slot 28: call F11<farandole/transport.Resend> t27 [i:i64:8]
  refine seqE rfl rfl (stepCall rfl Try.call11 rfl ?_)
  refine (resend_c ⟨2, true, msg 3, 8, 1⟩ 8 A2 B2 ca2 cb2 _ (Rd.nil _ _) (Rd.nil _ _) (by decide) (by decide)).mono ?_
  rintro v Hf ⟨vs, vp, rfl, hs, hp, hxf⟩
  rw [f3] at hs hp ⊢
  obtain ⟨A3, ca3, B3, cb3, rfl, -, -⟩ := hs
  obtain ⟨C3, cc3, D3, cd3, rfl, -, -⟩ := hp
  replace hBd := hBd.ext hxf
  replace hBb := hBb.ext hxf
  replace hE := hE.trans hxf
  have tf := hxf.size
  clear hxf
  refine seqQ rfl rfl (yMove (v := .tuple _) rfl rfl) ?_
  refine seqQ rfl rfl (yExtract (v := .agg _) rfl rfl rfl) ?_
  refine seqQ rfl rfl (yExtract (v := .agg _) rfl rfl rfl) ?_
  refine seqQ rfl rfl (yExtract (v := .bool _) rfl rfl rfl) ?_
  refine seqN rfl rfl (nAlloc rfl Try.zeroValue27 rfl) (fun g7 H7 hx7 hB7 hg7 hl7 => ?_)
  -- e slot None: store T29 t4 t29
  refine seqE0 rfl rfl (stepStoreB rfl (by kernel_rfl) rfl rfl rfl (hBd.ext hx7) rfl ?_)
  intro Hg hBg hKg
  have hK7 := hB7.keep hKg (by simp; omega)
  -- e slot None: store T27 t7 t30
  refine seqE0 rfl rfl (stepStoreB rfl (by kernel_rfl) rfl rfl rfl hK7 rfl ?_)
  intro Hh hBh hKh
  have t7 := hx7.size
  have tg := hKg.size
  have th := hKh.size
  replace hBg := hBg.keep hKh (by simp; omega)
  replace hBb := ((hBb.ext hx7).keep hKg (by simp; omega)).keep hKh (by simp; omega)
  replace hE := ((hE.trans hx7).mine hKg (by simp; omega)).mine hKh (by simp; omega)
  clear hx7 hB7 hK7 hKg hKh hBd
  refine seqQ rfl rfl (yAssign (v := .bool _) rfl rfl) ?_
  refine seqNil ?_
  refine hF4 _ _ ?_; clear hF4
  refine wpSeq fun F5 hF5 => ?_
  refine wpRegion ?_
  refine seqQ rfl rfl (yBuild (pl := [(0, 1)]) (vs := []) rfl Try.underlying62 Try.zeroValue62 rfl (by unfold Places; kernel_rfl) rfl rfl) ?_
  -- e slot 34: call F27<farandole/transport.Receive> t33 [i:i64:1]
  refine seqE rfl rfl (stepCall rfl Try.call27 rfl ?_)
  refine (receive_c 0 1 _ (by unfold In64; omega)).mono ?_
  rintro v Hi ⟨rfl, hxi⟩
  rw [show recvF 0 1 = (1, 1) from by decide]
  replace hBg := hBg.ext hxi
  replace hBb := hBb.ext hxi
  replace hBh := hBh.ext hxi
  replace hE := hE.trans hxi
  have ti := hxi.size
  clear hxi
  refine seqQ rfl rfl (yMove (v := .tuple _) rfl rfl) ?_
  refine seqQ rfl rfl (yExtract (v := .agg _) rfl rfl rfl) ?_
  refine seqQ rfl rfl (yExtract (v := .int _ _) rfl rfl rfl) ?_
  refine seqN rfl rfl (nAlloc rfl Try.zeroValue62 rfl) (fun g9 H9 hx9 hB9 hg9 hl9 => ?_)
  -- e slot None: store T62 t9 t35
  refine seqE0 rfl rfl (stepStoreB rfl (by kernel_rfl) rfl rfl rfl hB9 rfl ?_)
  intro Hj hBj hKj
  have t9 := hx9.size
  have tj := hKj.size
  replace hBg := (hBg.ext hx9).keep hKj (by simp; omega)
  replace hBb := (hBb.ext hx9).keep hKj (by simp; omega)
  replace hBh := (hBh.ext hx9).keep hKj (by simp; omega)
  replace hE := (hE.trans hx9).mine hKj (by simp; omega)
  clear hx9 hB9 hKj
  refine seqQ rfl rfl (yAssign (v := .int _ _) rfl rfl) ?_
  refine seqNil ?_
  refine hF5 _ _ ?_; clear hF5
  refine wpSeq fun F6 hF6 => ?_
  refine wpRegion ?_
  refine seqQ rfl rfl (yLoadB hBj rfl Try.underlying62 rfl Try.sizeOf62 rfl) ?_
  -- e slot 39: call F27<farandole/transport.Receive> t38 [i:i64:1]
  refine seqE rfl rfl (stepCall rfl Try.call27 rfl ?_)
  refine (receive_c 1 1 _ (by unfold In64; omega)).mono ?_
  rintro v Hk ⟨rfl, hxk⟩
  rw [show recvF 1 1 = (1, 2) from by decide]
  replace hBg := hBg.ext hxk
  replace hBb := hBb.ext hxk
  replace hBh := hBh.ext hxk
  replace hE := hE.trans hxk
  have tk := hxk.size
  clear hxk hBj
  refine seqQ rfl rfl (yMove (v := .tuple _) rfl rfl) ?_
  refine seqQ rfl rfl (yExtract (v := .agg _) rfl rfl rfl) ?_
  refine seqQ rfl rfl (yExtract (v := .int _ _) rfl rfl rfl) ?_
  refine seqN rfl rfl (nAlloc rfl Try.zeroValue62 rfl) (fun g11 H11 hx11 hB11 hg11 hl11 => ?_)
  -- e slot None: store T62 t11 t40
  refine seqE0 rfl rfl (stepStoreB rfl (by kernel_rfl) rfl rfl rfl hB11 rfl ?_)
  intro Hl hBl hKl
  have t11 := hx11.size
  replace hBg := (hBg.ext hx11).keep hKl (by simp; omega)
  replace hBb := (hBb.ext hx11).keep hKl (by simp; omega)
  replace hBh := (hBh.ext hx11).keep hKl (by simp; omega)
  replace hE := (hE.trans hx11).mine hKl (by simp; omega)
  clear hx11 hB11 hKl hBl
  refine seqQ rfl rfl (yAssign (v := .int _ _) rfl rfl) ?_
  refine seqNil ?_
  refine hF6 _ _ ?_; clear hF6
  refine wpSeq fun F7 hF7 => ?_
  refine wpRegion ?_
  refine seqQ rfl rfl (yMove (v := .int _ _) rfl rfl) ?_
  refine seqQ rfl rfl (yEql rfl rfl rfl) ?_
  refine seqQ rfl rfl (yMove (v := .bool true) rfl rfl) ?_
  refine seqQ rfl rfl (yFieldAddr rfl Try.underlying27 rfl Try.sizeOf3 rfl rfl) ?_
  refine seqQ rfl rfl (yLoad rfl Try.underlying3 rfl rfl (hBb.cell rfl)) ?_
  refine seqQ rfl rfl (yEql rfl rfl rfl) ?_
  refine seqQ rfl rfl (yPickT (v := .bool _) rfl rfl rfl) ?_
  refine seqQ rfl rfl (yMove (v := .bool true) rfl rfl) ?_
  refine seqQ rfl rfl (yFieldAddr rfl Try.underlying27 rfl Try.sizeOf3 rfl rfl) ?_
  refine seqQ rfl rfl (yLoad rfl Try.underlying3 rfl rfl (hBb.cell rfl)) ?_
  refine seqQ rfl rfl (yEql rfl rfl rfl) ?_
  refine seqQ rfl rfl (yPickT (v := .bool _) rfl rfl rfl) ?_
  refine seqQ rfl rfl (yMove (v := .bool true) rfl rfl) ?_
  refine seqQ rfl rfl (yMove (v := .bool _) rfl rfl) ?_
  refine seqQ rfl rfl (yNot rfl rfl) ?_
  refine seqQ rfl rfl (yPickT (v := .bool _) rfl rfl rfl) ?_
  refine seqQ rfl rfl (yMove (v := .bool true) rfl rfl) ?_
  refine seqQ rfl rfl (yMove (v := .bool _) rfl rfl) ?_
  refine seqQ rfl rfl (yPickT (v := .bool _) rfl rfl rfl) ?_
  refine seqQ rfl rfl (yMove (v := .bool true) rfl rfl) ?_
  refine seqQ rfl rfl (yLoadB hBb rfl Try.underlying27 rfl Try.sizeOf27 rfl) ?_
  refine seqQ rfl rfl (yLoadB hBh rfl Try.underlying27 rfl Try.sizeOf27 rfl) ?_
  -- e slot 64: call F12<farandole/packet.Equal> t62 t63
  refine seqE rfl rfl (stepCall rfl Try.call12 rfl ?_)
  refine (pkEqual_c (msg 3) (msg 3) C D C3 D3 cc cd cc3 cd3 _ (Rd.nil _ _) (Rd.nil _ _) (Rd.nil _ _) (Rd.nil _ _) (by decide) (by decide)).mono ?_
  rintro v Hm ⟨rfl, hxm⟩
  rw [decide_eq_true (rfl : msg 3 = msg 3)]
  refine seqQ rfl rfl (yPickT (v := .bool _) rfl rfl rfl) ?_
  refine seqQ rfl rfl (yMove (v := .bool true) rfl rfl) ?_
  refine seqQ rfl rfl (yFieldAddr rfl Try.underlying29 rfl Try.sizeOf3 rfl rfl) ?_
  refine seqQ rfl rfl (yLoad rfl Try.underlying3 rfl rfl ((hBg.ext hxm).cell rfl)) ?_
  refine seqQ rfl rfl (yEql rfl rfl rfl) ?_
  refine seqQ rfl rfl (yPickT (v := .bool _) rfl rfl rfl) ?_
  refine seqQ rfl rfl (yMove (v := .bool true) rfl rfl) ?_
  refine seqQ rfl rfl (yMove (v := .int _ _) rfl rfl) ?_
  refine seqQ rfl rfl (yEql rfl rfl rfl) ?_
  refine seqQ rfl rfl (yPickT (v := .bool _) rfl rfl rfl) ?_
  refine seqQ rfl rfl (yMove (v := .bool true) rfl rfl) ?_
  refine seqQ rfl rfl (yMove (v := .int _ _) rfl rfl) ?_
  refine seqQ rfl rfl (yEql rfl rfl rfl) ?_
  refine seqQ rfl rfl (yPickT (v := .bool _) rfl rfl rfl) ?_
  refine seqQ rfl rfl (yAssign (v := .bool _) rfl rfl) ?_
  refine seqNil ?_
  refine hF7 _ _ ?_; clear hF7
  -- ret
  refine wpRet (fin1 (v := .bool _) rfl rfl ?_)
  exact ⟨rfl, hE.trans hxm⟩
end Go.Proofs.Ytcfnmklbkhibgaa
