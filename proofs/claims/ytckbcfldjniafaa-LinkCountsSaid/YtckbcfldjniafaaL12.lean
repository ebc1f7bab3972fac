/- Package link: the document's example. -/
import Derived.Test.YtckbcfldjniafaaL11
namespace Go.Proofs.Ytckbcfldjniafaa
open Go.RowKit

set_option maxRecDepth 100000 in
theorem sm_of {l : LH} {f : Lk} (h : l.lk = f) (h1 : f.pat.length ≤ 100000) (h2 : f.fly.length ≤ 100000) (h3 : ∀ x ∈ f.fly, x.2.length ≤ 100000) : LkSm l := by
  subst h
  refine ⟨h1, by rwa [fly_len] at h2, fun x hx => ?_⟩
  exact h3 x.fl (List.mem_map_of_mem hx)
set_option maxRecDepth 100000 in
theorem ex1 : newL [4, 5] = (0, ⟨[4, 5], 0, 0, []⟩) := by kernel_rfl
set_option maxRecDepth 100000 in
theorem ex2 : sendL ⟨[4, 5], 0, 0, []⟩ [97] = (0, ⟨[4, 5], 0, 1, []⟩) := by kernel_rfl
set_option maxRecDepth 100000 in
theorem ex3 : sendL ⟨[4, 5], 0, 1, []⟩ [98] = (0, ⟨[4, 5], 0, 2, [(1, [98]), (2, [98])]⟩) := by kernel_rfl
set_option maxRecDepth 100000 in
theorem ex4 : tickL ⟨[4, 5], 0, 2, [(1, [98]), (2, [98])]⟩ = (⟨[4, 5], 1, 2, [(2, [98])]⟩, [[98]]) := by kernel_rfl
set_option maxRecDepth 100000 in
theorem ex5 : tickL ⟨[4, 5], 1, 2, [(2, [98])]⟩ = (⟨[4, 5], 2, 2, []⟩, [[98]]) := by kernel_rfl
set_option maxRecDepth 100000 in
theorem one_bh {bs : List BH} {d : List UInt8} (h : bs.map BH.data = [d]) : ∃ A c, bs = [⟨A, c, d⟩] := by
  match bs, h with
  | [y], h =>
    obtain ⟨A, c, e⟩ := y
    have : e = d := by simpa using h
    subst this
    exact ⟨A, c, rfl⟩
set_option maxRecDepth 100000 in
theorem lkAwake_c (H : Heap) : CallsH Try.prog 9 [] H fun v H' => v = .bool true ∧ Ext H H' := by
  refine callsH_of Try.func9 rfl Try.ntmps9 (Nat.le_of_ble_eq_true rfl) ?_
  refine wpSeq fun F1 hF1 => ?_
  refine wpRegion ?_
  refine seqQ rfl rfl (yAssign (v := .bool _) rfl rfl) ?_
  refine seqNil ?_
  refine hF1 _ _ ?_; clear hF1
  refine wpSeq fun F2 hF2 => ?_
  refine wpRegion ?_
  refine seqN rfl rfl (nBuildSlice (vs := [.int _ _, .int _ _]) rfl Try.underlying22 Try.sizeOf5 Try.zeroValue5 rfl rfl rfl rfl) (fun g9 H9 hx9 hB9 hg9 hl9 => ?_)
  -- e slot 10: call F21<farandole/link.New> t9
  refine seqE rfl rfl (stepCall rfl Try.call21 rfl ?_)
  refine (new_c (some ⟨g9, 0, none⟩) 2 [4, 5] H9 (Blk.rd (c := eByte) (l := [4, 5]) hB9) (by simp)).mono ?_
  rintro v Ha ⟨L1, hv, e1, r1, xa⟩
  rw [ex1] at hv e1
  subst hv
  refine seqQ rfl rfl (yMove (v := .tuple _) rfl rfl) ?_
  refine seqQ rfl rfl (yExtract (v := .agg _) rfl rfl rfl) ?_
  refine seqQ rfl rfl (yExtract (v := .int _ _) rfl rfl rfl) ?_
  refine seqN rfl rfl (nAlloc rfl Try.zeroValue30 rfl) (fun g1 H1 hx1 hB1 hg1 hl1 => ?_)
  -- e slot None: store T30 t1 t11
  refine seqE0 rfl rfl (stepStoreB rfl (by kernel_rfl) rfl rfl rfl hB1 rfl ?_)
  intro Hb h1 hKb
  have xb : Ext H Hb := ((hx9.trans xa).trans hx1).mine hKb (by have := hx9.size; have := xa.size; simp; omega)
  have gl1 := h1.lt
  have gb1 : H.size ≤ g1 := by have := hx9.size; have := xa.size; omega
  replace r1 : LkN H9.size Hb L1 := r1.ext (hx1.mine hKb (by simp; omega))
  clear hx1 hKb hB1 xa hx9 hB9
  refine seqQ rfl rfl (yAssign (v := .int _ _) rfl rfl) ?_
  refine seqNil ?_
  refine hF2 _ _ ?_; clear hF2
  refine wpSeq fun F3 hF3 => ?_
  refine wpRegion ?_
  refine seqQ rfl rfl (yLoadB h1 rfl Try.underlying30 rfl Try.sizeOf30 rfl) ?_
  refine seqN rfl rfl (nBuildSlice (vs := [.int _ _]) rfl Try.underlying22 Try.sizeOf5 Try.zeroValue5 rfl rfl rfl rfl) (fun g15 H15 hx15 hB15 hg15 hl15 => ?_)
  -- e slot 16: convert T22 T22 t15
  refine seqE rfl rfl (stepMark (l := [97]) hB15 rfl Try.underlying22 Try.underlying5 rfl ?_)
  intro H16 rd16 hK16
  have x16 : Ext Hb H16 := hx15.mine hK16 (by simp; omega)
  -- e slot 17: call F22<farandole/link.Send> t14 t16
  refine seqE rfl rfl (stepCall rfl Try.call22 rfl ?_)
  refine (send_c L1 (some ⟨g15, 0, none⟩) 1 [97] H16 (r1.ext x16).rd (sm_of e1 (by decide) (by decide) (by decide)) rd16 (by simp)).mono ?_
  rintro v Hc ⟨L2, hv, e2, r2, xc⟩
  rw [e1, ex2] at hv e2
  subst hv
  have z15 := x16.size
  refine seqQ rfl rfl (yMove (v := .tuple _) rfl rfl) ?_
  refine seqQ rfl rfl (yExtract (v := .agg _) rfl rfl rfl) ?_
  refine seqQ rfl rfl (yExtract (v := .int _ _) rfl rfl rfl) ?_
  -- e slot None: store T30 t1 t18
  refine seqE0 rfl rfl (stepStoreB rfl (by kernel_rfl) rfl rfl rfl ((h1.ext x16).ext xc) rfl ?_)
  intro Hd h1' hKd
  replace h1 : Blk Hd g1 (lkC L2) 30 := h1'
  have xd := ((xb.trans x16).trans xc).mine hKd (by simp; omega)
  replace r2 := r2.keep hKd (by simp; omega)
  have zd := hKd.size
  have zc := xc.size
  clear h1' hKd r1 e1 xb xc hx15 hB15 x16 rd16 hK16
  refine seqQ rfl rfl (yAssign (v := .int _ _) rfl rfl) ?_
  refine seqNil ?_
  refine hF3 _ _ ?_; clear hF3
  refine wpSeq fun F4 hF4 => ?_
  refine wpRegion ?_
  refine seqQ rfl rfl (yLoadB h1 rfl Try.underlying30 rfl Try.sizeOf30 rfl) ?_
  refine seqN rfl rfl (nBuildSlice (vs := [.int _ _]) rfl Try.underlying22 Try.sizeOf5 Try.zeroValue5 rfl rfl rfl rfl) (fun g22 H22 hx22 hB22 hg22 hl22 => ?_)
  -- e slot 23: convert T22 T22 t22
  refine seqE rfl rfl (stepMark (l := [98]) hB22 rfl Try.underlying22 Try.underlying5 rfl ?_)
  intro H23 rd23 hK23
  have x23 : Ext Hd H23 := hx22.mine hK23 (by simp; omega)
  -- e slot 24: call F22<farandole/link.Send> t21 t23
  refine seqE rfl rfl (stepCall rfl Try.call22 rfl ?_)
  refine (send_c L2 (some ⟨g22, 0, none⟩) 1 [98] H23 (r2.ext x23).rd (sm_of e2 (by decide) (by decide) (by decide)) rd23 (by simp)).mono ?_
  rintro v He ⟨L3, hv, e3, r3, xe⟩
  rw [e2, ex3] at hv e3
  subst hv
  have z22 := x23.size
  refine seqQ rfl rfl (yMove (v := .tuple _) rfl rfl) ?_
  refine seqQ rfl rfl (yExtract (v := .agg _) rfl rfl rfl) ?_
  refine seqQ rfl rfl (yExtract (v := .int _ _) rfl rfl rfl) ?_
  -- e slot None: store T30 t1 t25
  refine seqE0 rfl rfl (stepStoreB rfl (by kernel_rfl) rfl rfl rfl ((h1.ext x23).ext xe) rfl ?_)
  intro Hf h1' hKf
  replace h1 : Blk Hf g1 (lkC L3) 30 := h1'
  have xf := ((xd.trans x23).trans xe).mine hKf (by simp; omega)
  replace r3 := r3.keep hKf (by simp; omega)
  have zf := hKf.size
  have ze := xe.size
  clear h1' hKf r2 e2 xd xe hx22 hB22 x23 rd23 hK23
  refine seqQ rfl rfl (yAssign (v := .int _ _) rfl rfl) ?_
  refine seqNil ?_
  refine hF4 _ _ ?_; clear hF4
  refine wpSeq fun F5 hF5 => ?_
  refine wpRegion ?_
  refine seqQ rfl rfl (yLoadB h1 rfl Try.underlying30 rfl Try.sizeOf30 rfl) ?_
  -- e slot 29: call F11<farandole/link.Tick> t28
  refine seqE rfl rfl (stepCall rfl Try.call11 rfl ?_)
  refine (tick_c L3 Hf r3.rd (sm_of e3 (by decide) (by decide) (by decide))).mono ?_
  rintro v Hg ⟨L4, VA, vc, bs, rfl, e4, b4, r4, p4, xg⟩
  rw [e3, ex4] at e4 b4
  obtain ⟨A4, c4, rfl⟩ := one_bh b4
  refine seqQ rfl rfl (yMove (v := .tuple _) rfl rfl) ?_
  refine seqQ rfl rfl (yExtract (v := .agg _) rfl rfl rfl) ?_
  refine seqQ rfl rfl (yExtract (v := .slice _ _ _) rfl rfl rfl) ?_
  -- e slot None: store T30 t1 t30
  refine seqE0 rfl rfl (stepStoreB rfl (by kernel_rfl) rfl rfl rfl (h1.ext xg) rfl ?_)
  intro Hh h1' hKh
  replace h1 : Blk Hh g1 (lkC L4) 30 := h1'
  have xh := (xf.trans xg).mine hKh (by simp; omega)
  replace r4 := r4.keep hKh (by simp; omega)
  replace p4 := p4.keep hKh (by simp; omega)
  have zh := hKh.size
  clear h1' hKh r3 e3 xf xg
  refine seqQ rfl rfl (yAssign (v := .slice _ _ _) rfl rfl) ?_
  refine seqNil ?_
  refine hF5 _ _ ?_; clear hF5
  refine wpSeq fun F6 hF6 => ?_
  refine wpRegion ?_
  refine seqQ rfl rfl (yLoadB h1 rfl Try.underlying30 rfl Try.sizeOf30 rfl) ?_
  -- e slot 34: call F11<farandole/link.Tick> t33
  refine seqE rfl rfl (stepCall rfl Try.call11 rfl ?_)
  refine (tick_c L4 Hh r4.rd (sm_of e4 (by decide) (by decide) (by decide))).mono ?_
  rintro v Hi ⟨L5, WA, wc, cs, rfl, e5, b5, r5, p5, xi⟩
  rw [e4, ex5] at e5 b5
  obtain ⟨A5, c5, rfl⟩ := one_bh b5
  refine seqQ rfl rfl (yMove (v := .tuple _) rfl rfl) ?_
  refine seqQ rfl rfl (yExtract (v := .agg _) rfl rfl rfl) ?_
  refine seqQ rfl rfl (yExtract (v := .slice _ _ _) rfl rfl rfl) ?_
  refine seqN rfl rfl (nAlloc rfl Try.zeroValue30 rfl) (fun g6 H6 hx6 hB6 hg6 hl6 => ?_)
  -- e slot None: store T30 t6 t35
  refine seqE0 rfl rfl (stepStoreB rfl (by kernel_rfl) rfl rfl rfl hB6 rfl ?_)
  intro Hj h6 hKj
  have xj : Ext Hi Hj := hx6.mine hKj (by simp; omega)
  replace p4 := (p4.ext xi).ext xj
  replace p5 := p5.ext xj
  have xH := (xh.trans xi).trans xj
  obtain ⟨p, rfl, hp⟩ := p4.rd.at1 (k := 0) (by simp)
  obtain ⟨q, rfl, hq⟩ := p5.rd.at1 (k := 0) (by simp)
  have r4 := p4.data ⟨A4, c4, [98]⟩ (by simp)
  have r5 := p5.data ⟨A5, c5, [98]⟩ (by simp)
  clear h6 hKj hB6 hx6
  refine seqQ rfl rfl (yAssign (v := .slice _ _ _) rfl rfl) ?_
  refine seqNil ?_
  refine hF6 _ _ ?_; clear hF6
  refine wpSeq fun F7 hF7 => ?_
  refine wpRegion ?_
  refine seqQ rfl rfl (yMove (v := .int _ _) rfl rfl) ?_
  refine seqQ rfl rfl (yEql rfl rfl rfl) ?_
  refine seqQ rfl rfl (yMove (v := .bool true) rfl rfl) ?_
  refine seqQ rfl rfl (yMove (v := .int _ _) rfl rfl) ?_
  refine seqQ rfl rfl (yEql rfl rfl rfl) ?_
  refine seqQ rfl rfl (yPickT (v := .bool _) rfl rfl rfl) ?_
  refine seqQ rfl rfl (yMove (v := .bool true) rfl rfl) ?_
  refine seqQ rfl rfl (yMove (v := .int _ _) rfl rfl) ?_
  refine seqQ rfl rfl (yEql rfl rfl rfl) ?_
  refine seqQ rfl rfl (yPickT (v := .bool _) rfl rfl rfl) ?_
  refine seqQ rfl rfl (yMove (v := .bool true) rfl rfl) ?_
  refine seqQ rfl rfl (yMove (v := .slice _ _ _) rfl rfl) ?_
  refine seqQ rfl rfl (yLen rfl Try.underlying31 rfl) ?_
  refine seqQ rfl rfl (yEql rfl rfl rfl) ?_
  refine seqQ rfl rfl (yPickT (v := .bool _) rfl rfl rfl) ?_
  refine seqQ rfl rfl (yMove (v := .bool true) rfl rfl) ?_
  refine seqQ rfl rfl (yMove (v := .slice _ _ _) rfl rfl) ?_
  refine seqQ rfl rfl (yIdx1 rfl Try.underlying31 Try.sizeOf22 rfl rfl (show (0 : Int) = ((0 : Nat) : Int) by rfl) (by simp)) ?_
  refine seqQ rfl rfl (yLoad rfl Try.underlying22 rfl rfl hp) ?_
  refine seqQ rfl rfl (yBytesStr rfl Try.underlying22 Try.underlying9 Try.underlying5 rfl rfl r4) ?_
  refine seqQ rfl rfl (yEqlS rfl rfl rfl) ?_
  refine seqQ rfl rfl (yPickT (v := .bool _) rfl rfl rfl) ?_
  refine seqQ rfl rfl (yMove (v := .bool true) rfl rfl) ?_
  refine seqQ rfl rfl (yMove (v := .slice _ _ _) rfl rfl) ?_
  refine seqQ rfl rfl (yLen rfl Try.underlying31 rfl) ?_
  refine seqQ rfl rfl (yEql rfl rfl rfl) ?_
  refine seqQ rfl rfl (yPickT (v := .bool _) rfl rfl rfl) ?_
  refine seqQ rfl rfl (yMove (v := .bool true) rfl rfl) ?_
  refine seqQ rfl rfl (yMove (v := .slice _ _ _) rfl rfl) ?_
  refine seqQ rfl rfl (yIdx1 rfl Try.underlying31 Try.sizeOf22 rfl rfl (show (0 : Int) = ((0 : Nat) : Int) by rfl) (by simp)) ?_
  refine seqQ rfl rfl (yLoad rfl Try.underlying22 rfl rfl hq) ?_
  refine seqQ rfl rfl (yBytesStr rfl Try.underlying22 Try.underlying9 Try.underlying5 rfl rfl r5) ?_
  refine seqQ rfl rfl (yEqlS rfl rfl rfl) ?_
  refine seqQ rfl rfl (yPickT (v := .bool _) rfl rfl rfl) ?_
  refine seqQ rfl rfl (yAssign (v := .bool _) rfl rfl) ?_
  refine seqNil ?_
  refine hF7 _ _ ?_; clear hF7
  -- ret
  refine wpRet (fin1 (v := .bool _) rfl rfl ?_)
  exact ⟨rfl, xH⟩
end Go.Proofs.Ytckbcfldjniafaa
