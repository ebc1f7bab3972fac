/- Zones: the first check of the statements. -/
import Derived.Test.YtjkbkmbblidipaaZ8
namespace Go.Proofs.Ytjkbkmbblidipaa
open Go.RowKit

set_option maxRecDepth 100000 in
theorem afterStore {Hb Hc Hg Hs : Heap} {g : Nat} (hxc : Ext Hb Hc) (hxg : Ext Hc Hg) (hg : Hc.size ≤ g) (hK : Keep [g] Hg Hs) : Ext Hb Hs := (hxc.trans hxg).mine hK (by have := hxc.size; simp; omega)
set_option maxRecDepth 100000 in
theorem rdStore {α : Type} {c : El α} {Hc Hg Hs : Heap} {g : Nat} {A : Option Addr} {l : List α} (hr : Rd c Hc A l) (hxg : Ext Hc Hg) (hg : Hc.size ≤ g) (hK : Keep [g] Hg Hs) : Rd c Hs A l := by
  by_cases hl : l = []
  · subst hl; exact Rd.nil _ _
  · obtain ⟨p, e, hp⟩ := hr.lt (List.length_pos_iff.2 hl)
    refine (hr.ext hxg).keep hK fun q hq => ?_
    rw [e] at hq
    obtain rfl := Option.some.inj hq
    simp
    omega
set_option maxRecDepth 100000 in
theorem blkStore {Hc Hg Hs : Heap} {g b : Nat} {cs : List Value} {T : TypeId} (hB : Blk Hc b cs T) (hxg : Ext Hc Hg) (hg : Hc.size ≤ g) (hK : Keep [g] Hg Hs) : Blk Hs b cs T :=
  (hB.ext hxg).keep hK (by have := hB.lt; simp; omega)
set_option maxRecDepth 100000 in
theorem own_c (z : Zn) (A : Option Addr) (ca : Nat) (H : Heap) : CallsH Try.prog 15 [.agg (znC z A ca).toArray] H fun v H' => v = .agg (znC z A ca).toArray ∧ Ext H H' := by
  refine callsH_of Try.func15 rfl Try.ntmps15 (Nat.le_of_ble_eq_true rfl) ?_
  refine wpSeq fun F1 hF1 => ?_
  refine wpRegion ?_
  refine seqN rfl rfl (nBoxA rfl rfl) (fun g1 H1 hx1 hB1 hg1 hl1 => ?_)
  refine seqN rfl rfl (nAlloc rfl Try.zeroValue27 rfl) (fun g2 H2 hx2 hB2 hg2 hl2 => ?_)
  refine seqNil ?_
  refine hF1 _ _ ?_; clear hF1
  refine wpSeq fun F2 hF2 => ?_
  refine wpRegion ?_
  refine seqQ rfl rfl (yLoadB (hB1.ext hx2) rfl Try.underlying24 rfl Try.sizeOf24 rfl) ?_
  -- e slot None: store T27 t2 t3
  refine seqE0 rfl rfl (stepStoreB rfl (by kernel_rfl) rfl rfl rfl hB2 rfl ?_)
  intro H3 hB3 hK3
  refine seqNil ?_
  refine hF2 _ _ ?_; clear hF2
  -- ret
  refine wpRet (finR1 rfl (resC Try.underlying27 rfl (by kernel_rfl) rfl hB3) ?_)
  exact ⟨rfl, afterStore hx1 hx2 hg2 hK3⟩
set_option maxRecDepth 100000 in
theorem theirs_c (z : Zn) (A : Option Addr) (ca : Nat) (H : Heap) : CallsH Try.prog 22 [.agg (znC z A ca).toArray] H fun v H' => v = .agg (znC z A ca).toArray ∧ Ext H H' := by
  refine callsH_of Try.func22 rfl Try.ntmps22 (Nat.le_of_ble_eq_true rfl) ?_
  refine wpSeq fun F1 hF1 => ?_
  refine wpRegion ?_
  refine seqN rfl rfl (nBoxA rfl rfl) (fun g1 H1 hx1 hB1 hg1 hl1 => ?_)
  refine seqN rfl rfl (nAlloc rfl Try.zeroValue24 rfl) (fun g2 H2 hx2 hB2 hg2 hl2 => ?_)
  refine seqNil ?_
  refine hF1 _ _ ?_; clear hF1
  refine wpSeq fun F2 hF2 => ?_
  refine wpRegion ?_
  refine seqQ rfl rfl (yLoadB (hB1.ext hx2) rfl Try.underlying27 rfl Try.sizeOf27 rfl) ?_
  -- e slot None: store T24 t2 t3
  refine seqE0 rfl rfl (stepStoreB rfl (by kernel_rfl) rfl rfl rfl hB2 rfl ?_)
  intro H3 hB3 hK3
  refine seqNil ?_
  refine hF2 _ _ ?_; clear hF2
  -- ret
  refine wpRet (finR1 rfl (resC Try.underlying24 rfl (by kernel_rfl) rfl hB3) ?_)
  exact ⟨rfl, afterStore hx1 hx2 hg2 hK3⟩
def aw1 : Zn := (addZ (newZ 2) (-1) 0 (-3)).1
def aw2 : Zn := (addZ aw1 1 0 (-1)).1
set_option maxRecDepth 100000 in
theorem aw_1 : addZ (newZ 2) (-1) 0 (-3) = (aw1, 0) := Prod.ext rfl (by decide +kernel)
set_option maxRecDepth 100000 in
theorem aw_2 : addZ aw1 1 0 (-1) = (aw2, 0) := Prod.ext rfl (by decide +kernel)
set_option maxRecDepth 100000 in
theorem aw_r : rngZ aw2 1 = (-10000, 9999, true) := by decide +kernel
set_option maxRecDepth 100000 in
theorem aw_m : modZ aw2 = ([3, -10000], true) := by decide +kernel
set_option maxRecDepth 100000 in
theorem aw_v : decide (ValZ aw2) = true := by decide +kernel
set_option maxRecDepth 100000 in
theorem aw_n : aw2.N = 2 := by decide +kernel
set_option maxRecDepth 100000 in
theorem awake_c (H : Heap) : CallsH Try.prog 12 [] H fun v H' => v = .bool true ∧ Ext H H' := by
  refine callsH_of Try.func12 rfl Try.ntmps12 (Nat.le_of_ble_eq_true rfl) ?_
  refine wpSeq fun F1 hF1 => ?_
  refine wpRegion ?_
  refine seqQ rfl rfl (yAssign (v := .bool _) rfl rfl) ?_
  refine seqNil ?_
  refine hF1 _ _ ?_; clear hF1
  refine wpSeq fun F2 hF2 => ?_
  refine wpRegion ?_
  -- e slot 11: call F25<farandole/zone.New> [i:i64:2]
  refine seqE rfl rfl (stepCall rfl Try.call25 rfl ?_)
  have hc := new_c 2 H (by unfold In64; omega)
  rw [show newF 2 = (newZ 2, 0) from rfl] at hc
  refine hc.mono ?_
  rintro v H2 ⟨hx2, u, rfl, A1, c1, rfl, ho1⟩
  have r1 := (Own.rd ho1).2
  refine seqQ rfl rfl (yMove (v := .tuple _) rfl rfl) ?_
  refine seqQ rfl rfl (yExtract (v := .agg _) rfl rfl rfl) ?_
  refine seqQ rfl rfl (yExtract (v := .int _ _) rfl rfl rfl) ?_
  refine seqN rfl rfl (nAlloc rfl Try.zeroValue27 rfl) (fun g1 H1 hx1 hB1 hg1 hl1 => ?_)
  -- e slot None: store T27 t1 t12
  refine seqE0 rfl rfl (stepStoreB rfl (by kernel_rfl) rfl rfl rfl hB1 rfl ?_)
  intro H3 hB3 hK3
  have hE := afterStore hx2 hx1 hg1 hK3
  have rd := rdStore r1 hx1 hg1 hK3
  have h0 := hx2.size
  clear hx2 hx1 hB1 hK3 r1 ho1 hc
  refine seqQ rfl rfl (yAssign (v := .int _ _) rfl rfl) ?_
  refine seqNil ?_
  refine hF2 _ _ ?_; clear hF2
  refine wpSeq fun F3 hF3 => ?_
  refine wpRegion ?_
  refine seqQ rfl rfl (yLoadB hB3 rfl Try.underlying27 rfl Try.sizeOf27 rfl) ?_
  refine seqQ rfl rfl (yBuild (pl := [(0, 1), (1, 1), (2, 1)]) (vs := [(0, .int _ _), (1, .int _ _), (2, .int _ _)]) rfl Try.underlying43 Try.zeroValue43 rfl (by unfold Places; kernel_rfl) rfl rfl) ?_
  -- e slot 17: call F23<farandole/zone.Add> t15 t16
  refine seqE rfl rfl (stepCall rfl Try.call23 rfl ?_)
  have hc := add_c (newZ 2) (-1) 0 (-3) A1 c1 H3 rd
  rw [aw_1] at hc
  refine hc.mono ?_
  rintro v H4 ⟨hx4, u, rfl, A2, c2, rfl, ho2⟩
  have r2 := (Own.rd ho2).2
  refine seqQ rfl rfl (yMove (v := .tuple _) rfl rfl) ?_
  refine seqQ rfl rfl (yExtract (v := .agg _) rfl rfl rfl) ?_
  refine seqQ rfl rfl (yExtract (v := .int _ _) rfl rfl rfl) ?_
  -- e slot None: store T27 t1 t18
  refine seqE0 rfl rfl (stepStoreB rfl (by kernel_rfl) rfl rfl rfl (hB3.ext hx4) rfl ?_)
  intro H5 hB5 hK5
  have l1 := hB3.lt
  have rd2 : Rd eInt H5 A2 aw1.b := r2.keep hK5 (fun p e => by subst e; have := (ho2.lt p.block rfl).1; simp; omega)
  have hE5 := (hE.trans hx4).mine hK5 (by simp; omega)
  clear hx4 hB3 hK5 r2 ho2 hc hE
  refine seqQ rfl rfl (yAssign (v := .int _ _) rfl rfl) ?_
  refine seqNil ?_
  refine hF3 _ _ ?_; clear hF3
  refine wpSeq fun F4 hF4 => ?_
  refine wpRegion ?_
  refine seqQ rfl rfl (yLoadB hB5 rfl Try.underlying27 rfl Try.sizeOf27 rfl) ?_
  refine seqQ rfl rfl (yBuild (pl := [(0, 1), (1, 1), (2, 1)]) (vs := [(0, .int _ _), (1, .int _ _), (2, .int _ _)]) rfl Try.underlying43 Try.zeroValue43 rfl (by unfold Places; kernel_rfl) rfl rfl) ?_
  -- e slot 23: call F23<farandole/zone.Add> t21 t22
  refine seqE rfl rfl (stepCall rfl Try.call23 rfl ?_)
  have hc := add_c aw1 1 0 (-1) A2 c2 H5 rd2
  rw [aw_2] at hc
  refine hc.mono ?_
  rintro v H6 ⟨hx6, u, rfl, A3, c3, rfl, ho3⟩
  have r3 := (Own.rd ho3).2
  refine seqQ rfl rfl (yMove (v := .tuple _) rfl rfl) ?_
  refine seqQ rfl rfl (yExtract (v := .agg _) rfl rfl rfl) ?_
  refine seqQ rfl rfl (yExtract (v := .int _ _) rfl rfl rfl) ?_
  -- e slot None: store T27 t1 t24
  refine seqE0 rfl rfl (stepStoreB rfl (by kernel_rfl) rfl rfl rfl (hB5.ext hx6) rfl ?_)
  intro H7 hB7 hK7
  have l2 := hB5.lt
  have rd3 : Rd eInt H7 A3 aw2.b := r3.keep hK7 (fun p e => by subst e; have := (ho3.lt p.block rfl).1; simp; omega)
  have hE7 := (hE5.trans hx6).mine hK7 (by simp; omega)
  clear hx6 hB5 hK7 r3 ho3 hc hE5
  refine seqQ rfl rfl (yAssign (v := .int _ _) rfl rfl) ?_
  refine seqNil ?_
  refine hF4 _ _ ?_; clear hF4
  refine wpSeq fun F5 hF5 => ?_
  refine wpRegion ?_
  refine seqQ rfl rfl (yLoadB hB7 rfl Try.underlying27 rfl Try.sizeOf27 rfl) ?_
  -- e slot 28: call F19<farandole/zone.Range> t27 [i:i64:1]
  refine seqE rfl rfl (stepCall rfl Try.call19 rfl ?_)
  have hc := range_c aw2 1 A3 c3 H7 rd3 (by rw [aw_n]; decide)
  rw [aw_r] at hc
  refine hc.mono ?_
  rintro v H8 ⟨hx8, rfl⟩
  refine seqQ rfl rfl (yMove (v := .tuple _) rfl rfl) ?_
  refine seqQ rfl rfl (yExtract (v := .int _ _) rfl rfl rfl) ?_
  refine seqQ rfl rfl (yExtract (v := .int _ _) rfl rfl rfl) ?_
  refine seqQ rfl rfl (yExtract (v := .bool _) rfl rfl rfl) ?_
  refine seqQ rfl rfl (yAssign (v := .int _ _) rfl rfl) ?_
  refine seqQ rfl rfl (yAssign (v := .int _ _) rfl rfl) ?_
  refine seqQ rfl rfl (yAssign (v := .bool _) rfl rfl) ?_
  refine seqNil ?_
  refine hF5 _ _ ?_; clear hF5
  refine wpSeq fun F6 hF6 => ?_
  refine wpRegion ?_
  refine seqQ rfl rfl (yLoadB (hB7.ext hx8) rfl Try.underlying27 rfl Try.sizeOf27 rfl) ?_
  -- e slot 34: call F17<farandole/zone.Model> t33
  refine seqE rfl rfl (stepCall rfl Try.call17 rfl ?_)
  have hc := model_c aw2 A3 c3 H8 (rd3.ext hx8) (by rw [aw_n]; decide)
  rw [aw_m] at hc
  refine hc.mono ?_
  rintro v H9 ⟨hx9, u, rfl, ho⟩
  obtain ⟨A4, c4, rfl, -, hrd, -⟩ := ho.form
  dsimp only at hrd ho
  obtain ⟨p, rfl, hp0⟩ := hrd.at1 (k := 0) (by decide)
  obtain ⟨q, e, hp1⟩ := hrd.at1 (k := 1) (by decide)
  obtain rfl := Option.some.inj e
  refine seqQ rfl rfl (yMove (v := .tuple _) rfl rfl) ?_
  refine seqQ rfl rfl (yExtract (v := .slice _ _ _) rfl rfl rfl) ?_
  refine seqQ rfl rfl (yExtract (v := .bool _) rfl rfl rfl) ?_
  refine seqQ rfl rfl (yAssign (v := .slice _ _ _) rfl rfl) ?_
  refine seqQ rfl rfl (yAssign (v := .bool _) rfl rfl) ?_
  refine seqNil ?_
  refine hF6 _ _ ?_; clear hF6
  refine wpSeq fun F7 hF7 => ?_
  refine wpRegion ?_
  refine seqQ rfl rfl (yMove (v := .int _ _) rfl rfl) ?_
  refine seqQ rfl rfl (yEql rfl rfl rfl) ?_
  refine seqQ rfl rfl (yMove (v := .bool true) rfl rfl) ?_
  refine seqQ rfl rfl (yMove (v := .int _ _) rfl rfl) ?_
  refine seqQ rfl rfl (yEql rfl rfl rfl) ?_
  refine seqQ rfl rfl (yPickT (v := .bool _) rfl rfl rfl) ?_
  refine seqQ rfl rfl (yMove (v := .bool true) rfl rfl) ?_
  refine seqQ rfl rfl (yMove (v := .int _ _) rfl rfl) ?_
  refine seqQ rfl rfl (yEql rfl rfl rfl) ?_
  refine seqQ rfl rfl (yPickT (v := .bool _) rfl rfl rfl) ?_
  refine seqQ rfl rfl (yMove (v := .bool true) rfl rfl) ?_
  refine seqQ rfl rfl (yMove (v := .bool _) rfl rfl) ?_
  refine seqQ rfl rfl (yPickT (v := .bool _) rfl rfl rfl) ?_
  refine seqQ rfl rfl (yMove (v := .bool true) rfl rfl) ?_
  refine seqQ rfl rfl (yMove (v := .int _ _) rfl rfl) ?_
  refine seqQ rfl rfl (yEql rfl rfl rfl) ?_
  refine seqQ rfl rfl (yPickT (v := .bool _) rfl rfl rfl) ?_
  refine seqQ rfl rfl (yMove (v := .bool true) rfl rfl) ?_
  refine seqQ rfl rfl (yMove (v := .bool _) rfl rfl) ?_
  refine seqQ rfl rfl (yPickT (v := .bool _) rfl rfl rfl) ?_
  refine seqQ rfl rfl (yMove (v := .bool true) rfl rfl) ?_
  refine seqQ rfl rfl (yMove (v := .slice _ _ _) rfl rfl) ?_
  refine seqQ rfl rfl (yLen rfl Try.underlying22 rfl) ?_
  refine seqQ rfl rfl (yEql rfl rfl rfl) ?_
  refine seqQ rfl rfl (yPickT (v := .bool _) rfl rfl rfl) ?_
  refine seqQ rfl rfl (yMove (v := .bool true) rfl rfl) ?_
  refine seqQ rfl rfl (yMove (v := .slice _ _ _) rfl rfl) ?_
  refine seqQ rfl rfl (yIdx1 rfl Try.underlying22 Try.sizeOf3 rfl rfl (show (0 : Int) = ((0 : Nat) : Int) from rfl) (by decide)) ?_
  refine seqQ rfl rfl (yLoad rfl Try.underlying3 rfl rfl hp0) ?_
  refine seqQ rfl rfl (yEql rfl rfl rfl) ?_
  refine seqQ rfl rfl (yPickT (v := .bool _) rfl rfl rfl) ?_
  refine seqQ rfl rfl (yMove (v := .bool true) rfl rfl) ?_
  refine seqQ rfl rfl (yMove (v := .slice _ _ _) rfl rfl) ?_
  refine seqQ rfl rfl (yIdx1 rfl Try.underlying22 Try.sizeOf3 rfl rfl (show (1 : Int) = ((1 : Nat) : Int) from rfl) (by decide)) ?_
  refine seqQ rfl rfl (yLoad rfl Try.underlying3 rfl rfl hp1) ?_
  refine seqQ rfl rfl (yEql rfl rfl rfl) ?_
  refine seqQ rfl rfl (yPickT (v := .bool _) rfl rfl rfl) ?_
  refine seqQ rfl rfl (yMove (v := .bool true) rfl rfl) ?_
  refine seqQ rfl rfl (yLoadB ((hB7.ext hx8).ext hx9) rfl Try.underlying27 rfl Try.sizeOf27 rfl) ?_
  -- e slot 76: call F27<farandole/zone.Valid> t75
  refine seqE rfl rfl (stepCall rfl Try.call27 rfl ?_)
  refine (zvalid_c aw2 A3 c3 H9 ((rd3.ext hx8).ext hx9)).mono ?_
  rintro v H10 ⟨rfl, hx10⟩
  rw [aw_v]
  refine seqQ rfl rfl (yPickT (v := .bool _) rfl rfl rfl) ?_
  refine seqQ rfl rfl (yAssign (v := .bool _) rfl rfl) ?_
  refine seqNil ?_
  refine hF7 _ _ ?_; clear hF7
  -- ret
  refine wpRet (fin1 (v := .bool _) rfl rfl ?_)
  exact ⟨rfl, ((hE7.trans hx8).trans hx9).trans hx10⟩
end Go.Proofs.Ytjkbkmbblidipaa
