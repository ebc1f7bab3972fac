/- ZoneModels: the model of a zone is in it, and no smaller assignment is: with the values of the first variables, and one less for the next one, there is no model; valid zones of up to 8 variables. Conditions: none beyond the statement's. -/
import Derived.Test.YtjkbkmbblidipaaZ14
namespace Go.Proofs.Ytjkbkmbblidipaa
open Go.ChangeShapes Go.WideShapes Go.ChangeAt Go.RowKit Go.Deep

set_option maxRecDepth 100000 in
theorem addK {z : Zn} (hv : ValZ z) {X Y : Int} {i j : Nat} (hX : X + 1 = (i : Int)) (hY : Y + 1 = (j : Int)) (hi : i < dm z) (hj : j < dm z) (C : Int) :
    ∃ L, addZ z X Y C = (⟨z.N, L⟩, 0) ∧ ValZ ⟨z.N, L⟩ ∧ ∀ vs, HoldsP ⟨z.N, L⟩ vs ↔ HoldsP z vs ∧ num vs i - num vs j ≤ max C (-20001) := by
  have hd := hv.dim
  have e := addZ_ok (C := C) hv (X := X) (Y := Y) ⟨by omega, by omega⟩ ⟨by omega, by omega⟩
  rw [addZ_idx hv hX hY] at e
  refine ⟨_, e, addZ_val hv hi hj, fun vs => ?_⟩
  rw [addZ_holds hv hi hj]
  constructor
  · rintro (⟨h1, h2⟩ | ⟨h1, h2⟩) <;> exact ⟨h1, by omega⟩
  · rintro ⟨h1, h2⟩
    rcases Int.lt_or_le C (-20001) with h | h
    · exact .inr ⟨h1, by omega⟩
    · exact .inl ⟨h1, by omega⟩
set_option maxRecDepth 100000 in
/-- A zone without assignments has no model. -/
theorem mod_none {z : Zn} (hv : ValZ z) (h : ∀ vs, ¬ HoldsP z vs) : (modZ z).2 = false ∧ closeZ z = (zn0, false) := by
  rcases closeZ_cases z with ⟨e, _⟩ | ⟨L, e, _, hB⟩
  · exact ⟨by unfold modZ; rw [e]; rfl, e⟩
  · exact absurd (modL_holds hv hB) (h _)
section
variable {P : Program} {n : Nat} {o : Oper} {E : Env} {H : Heap} {x y : Operand} {T yT : TypeId} {a b c : Int} {k : IntKind}
set_option maxRecDepth 100000 in
theorem yRemE (ho : o.op = .binOp .rem T x y yT) (hx : ev n E x = .int k a) (hy : ev n E y = .int k b) (h : 0 ≤ a ∧ 0 < b) (e : a % b = c) : Yld P n o E H (.int k c) := e ▸ yRem ho hx hy h
end
/-- A zone that shrinks. -/
structure LSt (H : Heap) (g2 g10 : Nat) (z : Zn) (A : Option Addr) (ca : Nat) (zz : Zn) (B : Option Addr) (cb : Nat) (H' : Heap) : Prop where
  ext : Ext H H'
  b2 : Blk H' g2 (znC z A ca) 24
  b10 : Blk H' g10 (znC zz B cb) 27
  rd : RdM eInt [g10] H' B zz.b
  val : ValZ zz
  eq : zz.N = z.N
  sub : ∀ vs, HoldsP zz vs → HoldsP z vs
  q10 : H.size ≤ g10
  ne : g2 ≠ g10
set_option maxRecDepth 100000 in
/-- .. a bound more. -/
theorem LSt.step {H H' Hc Hs : Heap} {g2 g10 : Nat} {z zz : Zn} {A B B' : Option Addr} {ca cb cb' : Nat} {L : List Int} (h : LSt H g2 g10 z A ca zz B cb H') (hx : Ext H' Hc) (hv : ValZ ⟨zz.N, L⟩) (hs : ∀ vs, HoldsP ⟨zz.N, L⟩ vs → HoldsP zz vs)
    (ho : Own eInt 3 Hc H'.size (.slice B' L.length cb') L) (hB : Blk Hs g10 (znC ⟨zz.N, L⟩ B' cb') 27) (hK : Keep [g10] Hc Hs) : LSt H g2 g10 z A ca ⟨zz.N, L⟩ B' cb' Hs := by
  have l := h.b10.lt
  refine ⟨(h.ext.trans hx).mine hK (by simpa using h.q10), (h.b2.ext hx).keep hK (by simpa using h.ne), hB, ?_, hv, h.eq, fun vs hh => h.sub vs (hs vs hh), h.q10, h.ne⟩
  exact (ho.rdM (M := [g10]) (by simp; omega)).tr (Tr.store hK (by simp))
set_option maxRecDepth 100000 in
theorem RdM.at1 {α : Type} {f : α → Value} {hf : ∀ x, (f x).oneCell' = true} {M : List Nat} {H : Heap} {A : Option Addr} {l : List α} {k : Nat} (h : RdM (El.of f hf) M H A l) (hk : k < l.length) : ∃ p, A = some p ∧ p.block ∉ M ∧ cellH H (p.add k) = some (f l[k]) := by
  obtain ⟨p, e, hm, _⟩ := h (by intro h; subst h; simp at hk)
  obtain ⟨q, e', hq⟩ := h.rd.at1 hk
  rw [e] at e'
  obtain rfl := Option.some.inj e'
  exact ⟨p, e, hm, hq⟩
set_option maxRecDepth 100000 in
theorem zModels_walk (z : Zn) (at_ : Nat) (hat : at_ ≤ 255) (A : Option Addr) (ca : Nat) (H : Heap) (hA : Rd eInt H A z.b) :
    CallsH Try.prog 6 [.agg (znC z A ca).toArray, .int .u8 (at_ : Int)] H fun v H' => v = .bool true ∧ Ext H H' := by
  refine callsH_of Try.func6 rfl Try.ntmps6 (Nat.le_of_ble_eq_true rfl) ?_
  refine wpSeq fun F1 hF1 => ?_
  refine wpRegion ?_
  refine seqN rfl rfl (nBoxA rfl rfl) (fun g2 H2 hx2 hB2 hg2 hl2 => ?_)
  refine seqQ rfl rfl (yAssign (v := .bool _) rfl rfl) ?_
  refine seqNil ?_
  refine hF1 _ _ ?_; clear hF1
  refine wpSeq fun F2 hF2 => ?_
  refine wpSeq fun F3 hF3 => ?_
  refine wpRegion ?_
  -- e slot 14: call F12<farandole/farandolelaw13.awake> 
  refine seqE rfl rfl (stepCall rfl Try.call12 rfl ?_)
  refine (awake_c _).mono ?_
  rintro v Ha ⟨rfl, hxa⟩
  refine seqQ rfl rfl (yNot rfl rfl) ?_
  refine seqQ rfl rfl (yMove (v := .bool false) rfl rfl) ?_
  refine seqQ rfl rfl (yLoadB (hB2.ext hxa) rfl Try.underlying24 rfl Try.sizeOf24 rfl) ?_
  -- e slot 18: call F13<farandole/farandoleref13.Few> t17
  refine seqE rfl rfl (stepCall rfl Try.call13 rfl ?_)
  refine (few_c z A ca _).mono ?_
  rintro v Hf ⟨rfl, hxf⟩
  have hE := (hx2.trans hxa).trans hxf
  have q2 : H.size ≤ g2 := hg2
  replace hB2 := (hB2.ext hxa).ext hxf
  clear hx2 hxa hxf
  refine seqQ rfl rfl (yNot rfl rfl) ?_
  refine seqQ rfl rfl (yPickF (v := .bool _) rfl rfl rfl) ?_
  -- guard t21
  refine seqGB rfl rfl rfl rfl (fun hf => ?_) (fun hf => ?_)
  · skip
    refine seqU rfl rfl ?_
    refine seqU rfl rfl ?_
    refine seqU rfl rfl ?_
    refine seqU rfl rfl ?_
    refine seqQ rfl rfl (yPickT (v := .bool _) rfl rfl rfl) ?_
    refine seqNil ?_
    refine hF3 _ _ ?_; clear hF3
    -- if t26
    refine wpT rfl ?_
    refine wpSeq fun F4 hF4 => ?_
    refine wpRegion ?_
    -- e slot 27: call F12<farandole/farandolelaw13.awake> 
    refine seqE rfl rfl (stepCall rfl Try.call12 rfl ?_)
    refine (awake_c _).mono ?_
    rintro v Ha ⟨rfl, hxa⟩
    refine seqQ rfl rfl (yAssign (v := .bool _) rfl rfl) ?_
    refine seqNil ?_
    refine hF4 _ _ ?_; clear hF4
    -- ret
    refine wpRet (fin1 (v := .bool _) rfl rfl ?_)
    exact ⟨rfl, hE.trans hxa⟩
  · skip
    have hf : z.N ≤ 8 ∧ z.b.length ≤ 100 := by simpa using hf
    obtain ⟨h8, hl⟩ := hf
    refine seqQ rfl rfl (yLoadB hB2 rfl Try.underlying24 rfl Try.sizeOf24 rfl) ?_
    -- e slot 23: call F15<farandole/farandolelaw13.own> t22
    refine seqE rfl rfl (stepCall rfl Try.call15 rfl ?_)
    refine (own_c z A ca _).mono ?_
    rintro v H1 ⟨rfl, hx1⟩
    -- e slot 24: call F27<farandole/zone.Valid> t23
    refine seqE rfl rfl (stepCall rfl Try.call27 rfl ?_)
    refine (zvalid_c z A ca _ ((hA.ext hE).ext hx1)).mono ?_
    rintro v H3 ⟨rfl, hx3⟩
    replace hB2 := (hB2.ext hx1).ext hx3
    replace hE := (hE.trans hx1).trans hx3
    clear hx1 hx3
    refine seqQ rfl rfl (yNot rfl rfl) ?_
    refine seqQ rfl rfl (yPickF (v := .bool _) rfl rfl rfl) ?_
    refine seqNil ?_
    refine hF3 _ _ ?_; clear hF3
    -- if t26
    refine wpCond rfl (fun hv => ?_) (fun hv => ?_)
    · skip
      refine wpSeq fun F5 hF5 => ?_
      refine wpRegion ?_
      -- e slot 27: call F12<farandole/farandolelaw13.awake> 
      refine seqE rfl rfl (stepCall rfl Try.call12 rfl ?_)
      refine (awake_c _).mono ?_
      rintro v Ha ⟨rfl, hxa⟩
      refine seqQ rfl rfl (yAssign (v := .bool _) rfl rfl) ?_
      refine seqNil ?_
      refine hF5 _ _ ?_; clear hF5
      -- ret
      refine wpRet (fin1 (v := .bool _) rfl rfl ?_)
      exact ⟨rfl, hE.trans hxa⟩
    · skip
      have hv : ValZ z := by simpa using hv
      obtain ⟨d1, d2, d3, d4⟩ := hv.dim
      rcases closeZ_cases z with ⟨e, _⟩ | ⟨L, e, -, hB⟩
      · have em : modZ z = ([], false) := by unfold modZ; rw [e]; rfl
        refine wpSkip ?_
        refine hF2 _ _ ?_; clear hF2
        refine wpSeq fun F6 hF6 => ?_
        refine wpRegion ?_
        refine seqQ rfl rfl (yLoadB hB2 rfl Try.underlying24 rfl Try.sizeOf24 rfl) ?_
        -- e slot 30: call F15<farandole/farandolelaw13.own> t29
        refine seqE rfl rfl (stepCall rfl Try.call15 rfl ?_)
        refine (own_c z A ca _).mono ?_
        rintro v H1 ⟨rfl, hx1⟩
        -- e slot 31: call F17<farandole/zone.Model> t30
        refine seqE rfl rfl (stepCall rfl Try.call17 rfl ?_)
        have hc := model_c z A ca _ ((hA.ext hE).ext hx1) h8
        rw [em] at hc
        refine hc.mono ?_
        rintro v H3 ⟨hx3, u, rfl, ho⟩
        obtain ⟨A3, c3, rfl, -⟩ := ho.form
        refine seqQ rfl rfl (yMove (v := .tuple _) rfl rfl) ?_
        refine seqQ rfl rfl (yExtract (v := .slice _ _ _) rfl rfl rfl) ?_
        refine seqQ rfl rfl (yExtract (v := .bool _) rfl rfl rfl) ?_
        refine seqQ rfl rfl (yAssign (v := .slice _ _ _) rfl rfl) ?_
        refine seqQ rfl rfl (yAssign (v := .bool _) rfl rfl) ?_
        refine seqNil ?_
        refine hF6 _ _ ?_; clear hF6
        refine wpSeq fun F7 hF7 => ?_
        refine wpSeq fun F8 hF8 => ?_
        refine wpRegion ?_
        refine seqQ rfl rfl (yLoadB ((hB2.ext hx1).ext hx3) rfl Try.underlying24 rfl Try.sizeOf24 rfl) ?_
        -- e slot 36: call F15<farandole/farandolelaw13.own> t35
        refine seqE rfl rfl (stepCall rfl Try.call15 rfl ?_)
        refine (own_c z A ca _).mono ?_
        rintro v H4 ⟨rfl, hx4⟩
        -- e slot 37: call F14<farandole/zone.Close> t36
        refine seqE rfl rfl (stepCall rfl Try.call14 rfl ?_)
        have hc := close_c z A ca _ ((((hA.ext hE).ext hx1).ext hx3).ext hx4) h8
        rw [e] at hc
        refine hc.mono ?_
        rintro v H5 ⟨hx5, u, rfl, A1, c1, rfl, ho1⟩
        refine seqQ rfl rfl (yMove (v := .tuple _) rfl rfl) ?_
        refine seqQ rfl rfl (yExtract (v := .agg _) rfl rfl rfl) ?_
        refine seqQ rfl rfl (yExtract (v := .bool _) rfl rfl rfl) ?_
        refine seqN rfl rfl (nAlloc rfl Try.zeroValue27 rfl) (fun g7 H7 hx7 hB7 hg7 hl7 => ?_)
        -- e slot None: store T27 t7 t38
        refine seqE0 rfl rfl (stepStoreB rfl (by kernel_rfl) rfl rfl rfl hB7 rfl ?_)
        intro H6 hB6 hK6
        have x6 := afterStore hx5 hx7 hg7 hK6
        refine seqQ rfl rfl (yAssign (v := .bool _) rfl rfl) ?_
        refine seqNil ?_
        refine hF8 _ _ ?_; clear hF8
        refine wpSeq fun F9 hF9 => ?_
        refine wpRegion ?_
        refine seqQ rfl rfl (yMove (v := .bool _) rfl rfl) ?_
        refine seqQ rfl rfl (yMove (v := .bool _) rfl rfl) ?_
        refine seqQ rfl rfl (yNeqB rfl Try.underlying4 rfl rfl) ?_
        refine seqQ rfl rfl (yMove (v := .bool false) rfl rfl) ?_
        refine seqQ rfl rfl (yMove (v := .bool _) rfl rfl) ?_
        refine seqQ rfl rfl (yNot rfl rfl) ?_
        refine seqQ rfl rfl (yPickF (v := .bool _) rfl rfl rfl) ?_
        refine seqNil ?_
        refine hF9 _ _ ?_; clear hF9
        -- if t46
        refine wpT rfl ?_
        refine wpSeq fun F10 hF10 => ?_
        refine wpRegion ?_
        refine seqQ rfl rfl (yMove (v := .bool _) rfl rfl) ?_
        refine seqQ rfl rfl (yMove (v := .bool _) rfl rfl) ?_
        refine seqQ rfl rfl (yEqlB rfl Try.underlying4 rfl rfl) ?_
        refine seqQ rfl rfl (yAssign (v := .bool _) rfl rfl) ?_
        refine seqNil ?_
        refine hF10 _ _ ?_; clear hF10
        -- ret
        refine wpRet (fin1 (v := .bool _) rfl rfl ?_)
        exact ⟨rfl, (((hE.trans hx1).trans hx3).trans hx4).trans x6⟩
      · skip
        have em : modZ z = (modL (dm z) L, true) := by unfold modZ; rw [e]; rfl
        have hml := modL_len (dm z) L
        have hmh := modL_holds hv hB
        refine wpSkip ?_
        refine hF2 _ _ ?_; clear hF2
        refine wpSeq fun F11 hF11 => ?_
        refine wpRegion ?_
        refine seqQ rfl rfl (yLoadB hB2 rfl Try.underlying24 rfl Try.sizeOf24 rfl) ?_
        -- e slot 30: call F15<farandole/farandolelaw13.own> t29
        refine seqE rfl rfl (stepCall rfl Try.call15 rfl ?_)
        refine (own_c z A ca _).mono ?_
        rintro v H1 ⟨rfl, hx1⟩
        -- e slot 31: call F17<farandole/zone.Model> t30
        refine seqE rfl rfl (stepCall rfl Try.call17 rfl ?_)
        have hc := model_c z A ca _ ((hA.ext hE).ext hx1) h8
        rw [em] at hc
        dsimp only at hc
        refine hc.mono ?_
        rintro v H3 ⟨hx3, u, rfl, ho⟩
        obtain ⟨A3, c3, rfl, -, rdm, -⟩ := ho.form
        have x3 := hx1.trans hx3
        replace hB2 := hB2.ext x3
        replace hE := hE.trans x3
        clear hx1 hx3 x3 ho hc
        refine seqQ rfl rfl (yMove (v := .tuple _) rfl rfl) ?_
        refine seqQ rfl rfl (yExtract (v := .slice _ _ _) rfl rfl rfl) ?_
        refine seqQ rfl rfl (yExtract (v := .bool _) rfl rfl rfl) ?_
        refine seqQ rfl rfl (yAssign (v := .slice _ _ _) rfl rfl) ?_
        refine seqQ rfl rfl (yAssign (v := .bool _) rfl rfl) ?_
        refine seqNil ?_
        refine hF11 _ _ ?_; clear hF11
        refine wpSeq fun F12 hF12 => ?_
        refine wpSeq fun F13 hF13 => ?_
        refine wpRegion ?_
        refine seqQ rfl rfl (yLoadB hB2 rfl Try.underlying24 rfl Try.sizeOf24 rfl) ?_
        -- e slot 36: call F15<farandole/farandolelaw13.own> t35
        refine seqE rfl rfl (stepCall rfl Try.call15 rfl ?_)
        refine (own_c z A ca _).mono ?_
        rintro v H4 ⟨rfl, hx4⟩
        -- e slot 37: call F14<farandole/zone.Close> t36
        refine seqE rfl rfl (stepCall rfl Try.call14 rfl ?_)
        have hc := close_c z A ca _ ((hA.ext hE).ext hx4) h8
        rw [e] at hc
        refine hc.mono ?_
        rintro v H5 ⟨hx5, u, rfl, A1, c1, rfl, ho1⟩
        refine seqQ rfl rfl (yMove (v := .tuple _) rfl rfl) ?_
        refine seqQ rfl rfl (yExtract (v := .agg _) rfl rfl rfl) ?_
        refine seqQ rfl rfl (yExtract (v := .bool _) rfl rfl rfl) ?_
        refine seqN rfl rfl (nAlloc rfl Try.zeroValue27 rfl) (fun g7 H7 hx7 hB7 hg7 hl7 => ?_)
        -- e slot None: store T27 t7 t38
        refine seqE0 rfl rfl (stepStoreB rfl (by kernel_rfl) rfl rfl rfl hB7 rfl ?_)
        intro H6 hB6 hK6
        have x6 := afterStore (hx4.trans hx5) hx7 hg7 hK6
        replace hB2 := hB2.ext x6
        replace rdm := rdm.ext x6
        replace hE := hE.trans x6
        clear hx4 hx5 hx7 hK6 x6 ho1 hc hB6 hB7
        refine seqQ rfl rfl (yAssign (v := .bool _) rfl rfl) ?_
        refine seqNil ?_
        refine hF13 _ _ ?_; clear hF13
        refine wpSeq fun F14 hF14 => ?_
        refine wpRegion ?_
        refine seqQ rfl rfl (yMove (v := .bool _) rfl rfl) ?_
        refine seqQ rfl rfl (yMove (v := .bool _) rfl rfl) ?_
        refine seqQ rfl rfl (yNeqB rfl Try.underlying4 rfl rfl) ?_
        refine seqQ rfl rfl (yMove (v := .bool false) rfl rfl) ?_
        refine seqQ rfl rfl (yMove (v := .bool _) rfl rfl) ?_
        refine seqQ rfl rfl (yNot rfl rfl) ?_
        refine seqQ rfl rfl (yPickF (v := .bool _) rfl rfl rfl) ?_
        refine seqNil ?_
        refine hF14 _ _ ?_; clear hF14
        -- if t46
        refine wpF rfl ?_
        refine wpSkip ?_
        refine hF12 _ _ ?_; clear hF12
        refine wpSeq fun F15 hF15 => ?_
        refine wpSeq fun F16 hF16 => ?_
        refine wpRegion ?_
        refine seqQ rfl rfl (yLoadB hB2 rfl Try.underlying24 rfl Try.sizeOf24 rfl) ?_
        -- e slot 51: call F15<farandole/farandolelaw13.own> t50
        refine seqE rfl rfl (stepCall rfl Try.call15 rfl ?_)
        refine (own_c z A ca _).mono ?_
        rintro v H7 ⟨rfl, hx7⟩
        refine seqQ rfl rfl (yMove (v := .slice _ _ _) rfl rfl) ?_
        -- e slot 53: call F31<farandole/zone.Holds> t51 t52
        refine seqE rfl rfl (stepCall rfl Try.call31 rfl ?_)
        refine (holds_c z (modL (dm z) L) A A3 ca c3 _ ((hA.ext hE).ext hx7) (rdm.ext hx7)).mono ?_
        rintro v H8 ⟨rfl, hx8⟩
        rw [decide_eq_true hmh]
        have x8 := hx7.trans hx8
        replace hB2 := hB2.ext x8
        replace rdm := rdm.ext x8
        replace hE := hE.trans x8
        clear hx7 hx8 x8
        refine seqQ rfl rfl (yNot rfl rfl) ?_
        refine seqQ rfl rfl (yMove (v := .bool false) rfl rfl) ?_
        refine seqQ rfl rfl (yMove (v := .slice _ _ _) rfl rfl) ?_
        refine seqQ rfl rfl (yLen rfl Try.underlying22 rfl) ?_
        refine seqQ rfl rfl (yEql rfl rfl rfl) ?_
        refine seqQ rfl rfl (yPickF (v := .bool _) rfl rfl rfl) ?_
        refine seqNil ?_
        refine hF16 _ _ ?_; clear hF16
        -- if t59
        refine wpIf rfl (fun h0 => ?_) (fun h0 => ?_)
        · skip
          refine wpSeq fun F17 hF17 => ?_
          refine wpRegion ?_
          refine seqQ rfl rfl (yMove (v := .slice _ _ _) rfl rfl) ?_
          refine seqQ rfl rfl (yLen rfl Try.underlying22 rfl) ?_
          refine seqQ rfl rfl (yEql rfl rfl rfl) ?_
          refine seqQ rfl rfl (yAssign (v := .bool _) rfl rfl) ?_
          refine seqNil ?_
          refine hF17 _ _ ?_; clear hF17
          -- ret
          refine wpRet (fin1 (v := .bool _) rfl rfl ?_)
          exact ⟨by rw [decide_eq_true h0], hE⟩
        · skip
          have hpos : 0 < (modL (dm z) L).length := by omega
          have hk := Nat.mod_lt at_ hpos
          have hrem : (at_ : Int) % ((modL (dm z) L).length : Int) = ((at_ % (modL (dm z) L).length : Nat) : Int) := by omega
          generalize at_ % (modL (dm z) L).length = k at hk hrem
          refine wpSkip ?_
          refine hF15 _ _ ?_; clear hF15
          refine wpSeq fun F18 hF18 => ?_
          refine wpRegion ?_
          refine seqQ rfl rfl (yMove (v := .int _ _) rfl rfl) ?_
          refine seqQ rfl rfl (yConv rfl Try.underlying5 Try.underlying3 rfl (IntWalk.i64_in _ (by omega))) ?_
          refine seqQ rfl rfl (yMove (v := .slice _ _ _) rfl rfl) ?_
          refine seqQ rfl rfl (yLen rfl Try.underlying22 rfl) ?_
          refine seqQ rfl rfl (yRemE rfl rfl rfl (by omega) hrem) ?_
          refine seqQ rfl rfl (yAssign (v := .int _ _) rfl rfl) ?_
          refine seqNil ?_
          refine hF18 _ _ ?_; clear hF18
          refine wpSeq fun F19 hF19 => ?_
          refine wpRegion ?_
          refine seqQ rfl rfl (yLoadB hB2 rfl Try.underlying24 rfl Try.sizeOf24 rfl) ?_
          -- e slot 69: call F15<farandole/farandolelaw13.own> t68
          refine seqE rfl rfl (stepCall rfl Try.call15 rfl ?_)
          refine (own_c z A ca _).mono ?_
          rintro v H9 ⟨rfl, hx9⟩
          refine seqN rfl rfl (nAlloc rfl Try.zeroValue27 rfl) (fun g10 H10 hx10 hB10 hg10 hl10 => ?_)
          -- e slot None: store T27 t10 t69
          refine seqE0 rfl rfl (stepStoreB rfl (by kernel_rfl) rfl rfl rfl hB10 rfl ?_)
          intro H11 hB11 hK11
          have x11 := afterStore hx9 hx10 hg10 hK11
          have s1 := hx9.size
          have s2 := hE.size
          have l2 := hB2.lt
          have st : LSt H g2 g10 z A ca z A ca H11 :=
            ⟨hE.trans x11, hB2.ext x11, hB11, (RdM.old hA ((hE.trans hx9).trans hx10) (by simp; omega)).tr (Tr.store hK11 (by simp)), hv, rfl, fun _ h => h, by omega, by omega⟩
          have rdm0 := (RdM.old (M := [g10]) (rdm.ext hx9) hx10 (by simp; omega)).tr (Tr.store hK11 (by simp))
          clear hx9 hx10 hB10 hB11 hK11 rdm x11 s1 s2 l2 hB2
          have bnd : ∀ i, i < (modL (dm z) L).length → -20000 ≤ -mt (dm z) L 0 (i + 1) ∧ -mt (dm z) L 0 (i + 1) ≤ 20000 := fun i hi => by
            have := hB.in64 hv (show 0 < dm z by omega) (show i + 1 < dm z by omega)
            omega
          refine seqNil ?_
          refine hF19 _ _ ?_; clear hF19
          refine wpSeq fun F20 hF20 => ?_
          refine wpSeq fun F21 hF21 => ?_
          refine wpRegion ?_
          refine seqQ rfl rfl (yMove (v := .int _ _) rfl rfl) ?_
          refine seqQ rfl rfl (yMove (v := .int _ _) rfl rfl) ?_
          refine seqNil ?_
          refine hF21 _ _ ?_; clear hF21
          -- loop
          refine wpBlock ?_
          refine wpLoopS [11, 71, 72, 73, 74, 75, 76, 77, 78, 79, 80, 81, 82, 83, 84, 85, 86, 87, 88, 89, 90, 91, 92, 93, 94, 95, 96, 97] (fun x : Nat × Zn × Option Addr × Nat => [(71, .int .i64 x.1)]) (fun x H' => x.1 ≤ k ∧ LSt H g2 g10 z A ca x.2.1 x.2.2.1 x.2.2.2 H' ∧ RdM eInt [g10] H' A3 (modL (dm z) L)) (fun x => k - x.1) (0, z, A, ca) ⟨rfl, trivial⟩ ⟨Nat.zero_le _, st, rdm0⟩ ?_
          rintro ⟨i, zz, B, cb⟩ J Hi ⟨hi, st1, rdm1⟩
          dsimp only at hi st1 rdm1
          clear st rdm0
          have hdz : dm zz = dm z := by unfold dm; rw [st1.eq]
          refine wpSeq fun F22 hF22 => ?_
          refine wpRegion ?_
          refine seqQ rfl rfl (yLss rfl rfl rfl) ?_
          refine seqNil ?_
          refine hF22 _ _ ?_; clear hF22
          refine wpSeq fun F23 hF23 => ?_
          -- if t72
          refine wpIf rfl (fun hlt => ?_) (fun hlt => ?_)
          · skip
            have hi : i < k := by dsimp only at hlt; omega
            have hil : i < (modL (dm z) L).length := by omega
            have bi := bnd i hil
            obtain ⟨q, eq, hqm, hq⟩ := rdm1.at1 hil
            rw [modL_get] at hq
            subst eq
            have l10 := st1.b10.lt
            refine wpSkip ?_
            refine hF23 _ _ ?_; clear hF23
            refine wpSeq fun F24 hF24 => ?_
            refine wpBlock ?_
            refine wpSeq fun F25 hF25 => ?_
            refine wpRegion ?_
            refine seqQ rfl rfl (yMove (v := .int _ _) rfl rfl) ?_
            refine seqQ rfl rfl (yAssign (v := .int _ _) rfl rfl) ?_
            refine seqNil ?_
            refine hF25 _ _ ?_; clear hF25
            refine wpSeq fun F26 hF26 => ?_
            refine wpRegionD Try_mixed [.e, .q, .q, .q, .q, .q, .q, .e, .q, .q, .q, .e] 12 [0, 0, 0, 0, 12, 28, 62, 127, 255, 511, 511, 1023] [g10] (by kernel_rfl) _ rfl [0, 1, 2, 3, 4, 5, 6, 7, 8, 9, 10, 11] rfl (by simp; omega) ?_
            refine lexY0 rfl rfl rfl rfl rfl (by simp; omega) (fun hM => (yLoadB st1.b10 rfl Try.underlying27 rfl Try.sizeOf27 rfl)) ?_
            refine lexQ rfl rfl rfl rfl (fun H hM => (yMove (v := .int _ _) rfl rfl)) ?_
            refine lexQ rfl rfl rfl rfl (fun H hM => (yMove (v := .slice _ _ _) rfl rfl)) ?_
            refine lexQ rfl rfl rfl rfl (fun H hM => (yMove (v := .int _ _) rfl rfl)) ?_
            refine lexQ rfl rfl rfl rfl (fun H hM => (yIdx1 rfl Try.underlying22 Try.sizeOf3 rfl rfl rfl hil)) ?_
            refine lexQ rfl rfl rfl rfl (fun H hM => (yLoad rfl Try.underlying3 rfl rfl (hM.cell hq (by simpa [block_of_add] using hqm)))) ?_
            refine lexQ rfl rfl rfl rfl (fun H hM => (yBuild (pl := [(0, 1), (1, 1), (2, 1)]) (vs := [(0, .int _ _), (1, .int _ _), (2, .int _ _)]) rfl Try.underlying43 Try.zeroValue43 rfl (by unfold Places; kernel_rfl) rfl rfl)) ?_
            -- e slot 82: call F23<farandole/zone.Add> t75 t81
            refine lexE0 rfl rfl rfl rfl rfl (fun hM82 => stepCall rfl Try.call23 rfl ?_)
            obtain ⟨L1, e1, v1, s1⟩ := addK st1.val (X := (i : Int)) (Y := -1) (i := i + 1) (j := 0) (by omega) (by omega) (by omega) (by omega) (-mt (dm z) L 0 (i + 1))
            have hc := add_c zz (i : Int) (-1) (-mt (dm z) L 0 (i + 1)) B cb Hi st1.rd.rd
            rw [e1] at hc
            refine hc.mono ?_
            rintro v Hc ⟨hxc, u, rfl, B1, cb1, rfl, ho⟩
            refine ⟨hxc.keep _, [g10], by have := hxc.size; simp; omega, ?_⟩
            refine lexQ rfl rfl rfl rfl (fun H hM => (yMove (v := .tuple _) rfl rfl)) ?_
            refine lexQ rfl rfl rfl rfl (fun H hM => (yExtract (v := .agg _) rfl rfl rfl)) ?_
            refine lexQ rfl rfl rfl rfl (fun H hM => (yExtract (v := .int _ _) rfl rfl rfl)) ?_
            -- e slot None: store T27 t10 t83
            refine lexE00 rfl rfl rfl rfl rfl (fun hMNone => stepStoreB rfl (by kernel_rfl) rfl rfl rfl (st1.b10.ext hxc) rfl ?_)
            intro Hs hBs hKs
            refine lexSt hKs (by simp) (by have := hxc.size; simp; omega) ?_
            -- tail
            refine lexNil0 rfl (fun hM => ?_)
            have st2 := st1.step hxc v1 (fun vs h => ((s1 vs).1 h).1) ho hBs hKs
            have rdm2 := (rdm1.tr (Tr.of_ext hxc _)).tr (Tr.store hKs (by simp))
            clear st1 rdm1 hxc ho hBs hKs hc hq
            obtain ⟨q', eq, hqm, hq⟩ := rdm2.at1 hil
            rw [modL_get] at hq
            obtain rfl := Option.some.inj eq
            have l10 := st2.b10.lt
            refine seqNil ?_
            refine hF26 _ _ ?_; clear hF26
            refine wpRegionD Try_mixed [.e, .q, .q, .q, .q, .q, .q, .q, .e, .q, .q, .q, .e] 13 [0, 0, 0, 0, 12, 28, 60, 126, 255, 511, 1023, 1023, 2047] [g10] (by kernel_rfl) _ rfl [0, 1, 2, 3, 4, 5, 6, 7, 8, 9, 10, 11, 12] rfl (by simp; omega) ?_
            refine lexY0 rfl rfl rfl rfl rfl (by simp; omega) (fun hM => (yLoadB st2.b10 rfl Try.underlying27 rfl Try.sizeOf27 rfl)) ?_
            refine lexQ rfl rfl rfl rfl (fun H hM => (yMove (v := .int _ _) rfl rfl)) ?_
            refine lexQ rfl rfl rfl rfl (fun H hM => (yMove (v := .slice _ _ _) rfl rfl)) ?_
            refine lexQ rfl rfl rfl rfl (fun H hM => (yMove (v := .int _ _) rfl rfl)) ?_
            refine lexQ rfl rfl rfl rfl (fun H hM => (yIdx1 rfl Try.underlying22 Try.sizeOf3 rfl rfl rfl hil)) ?_
            refine lexQ rfl rfl rfl rfl (fun H hM => (yLoad rfl Try.underlying3 rfl rfl (hM.cell hq (by simpa [block_of_add] using hqm)))) ?_
            refine lexQ rfl rfl rfl rfl (fun H hM => (yNeg rfl rfl (by unfold In64; omega))) ?_
            refine lexQ rfl rfl rfl rfl (fun H hM => (yBuild (pl := [(0, 1), (1, 1), (2, 1)]) (vs := [(0, .int _ _), (1, .int _ _), (2, .int _ _)]) rfl Try.underlying43 Try.zeroValue43 rfl (by unfold Places; kernel_rfl) rfl rfl)) ?_
            -- e slot 94: call F23<farandole/zone.Add> t86 t93
            refine lexE0 rfl rfl rfl rfl rfl (fun hM94 => stepCall rfl Try.call23 rfl ?_)
            obtain ⟨L2, e2, v2, s2⟩ := addK st2.val (X := -1) (Y := (i : Int)) (i := 0) (j := i + 1) (by omega) (by omega) (by show 0 < dm zz; omega) (by show i + 1 < dm zz; omega) (- -mt (dm z) L 0 (i + 1))
            have hc := add_c ⟨zz.N, L1⟩ (-1) (i : Int) (- -mt (dm z) L 0 (i + 1)) B1 cb1 Hs st2.rd.rd
            rw [e2] at hc
            refine hc.mono ?_
            rintro v Hc ⟨hxc, u, rfl, B2, cb2, rfl, ho⟩
            refine ⟨hxc.keep _, [g10], by have := hxc.size; simp; omega, ?_⟩
            refine lexQ rfl rfl rfl rfl (fun H hM => (yMove (v := .tuple _) rfl rfl)) ?_
            refine lexQ rfl rfl rfl rfl (fun H hM => (yExtract (v := .agg _) rfl rfl rfl)) ?_
            refine lexQ rfl rfl rfl rfl (fun H hM => (yExtract (v := .int _ _) rfl rfl rfl)) ?_
            -- e slot None: store T27 t10 t95
            refine lexE00 rfl rfl rfl rfl rfl (fun hMNone => stepStoreB rfl (by kernel_rfl) rfl rfl rfl (st2.b10.ext hxc) rfl ?_)
            intro Ht hBt hKt
            refine lexSt hKt (by simp) (by have := hxc.size; simp; omega) ?_
            -- tail
            refine lexNil0 rfl (fun hM => ?_)
            have st3 := st2.step hxc v2 (fun vs h => ((s2 vs).1 h).1) ho hBt hKt
            have rdm3 := (rdm2.tr (Tr.of_ext hxc _)).tr (Tr.store hKt (by simp))
            refine seqNil ?_
            refine hF24 _ _ ?_; clear hF24
            refine wpRegion ?_
            refine seqQ rfl rfl (yAdd rfl rfl rfl (by unfold In64; omega)) ?_
            refine seqQ rfl rfl (yMove (v := .int _ _) rfl rfl) ?_
            refine seqNil ?_
            -- end loop
            exact loopEnd (i + 1, _, _, _) (by repeat (first | (with_reducible exact Agree.refl _ _) | refine Agree.upd ?_ rfl | refine Agree.over ?_ rfl)) (by dsimp only; omega) ⟨rfl, trivial⟩ ⟨hi, st3, rdm3⟩
          · skip
            have bi := bnd k hk
            obtain ⟨q, eq, hqm, hq⟩ := rdm1.at1 hk
            rw [modL_get] at hq
            subst eq
            have l10 := st1.b10.lt
            refine wpExit ?_
            refine hF20 _ _ ?_; clear hF20
            refine wpSeq fun F27 hF27 => ?_
            refine wpRegionD Try_mixed [.e, .q, .q, .q, .q, .q, .q, .q, .e, .q, .q, .q, .e] 13 [0, 0, 0, 0, 12, 28, 60, 126, 255, 511, 1023, 1023, 2047] [g10] (by kernel_rfl) _ rfl [0, 1, 2, 3, 4, 5, 6, 7, 8, 9, 10, 11, 12] rfl (by simp; omega) ?_
            refine lexY0 rfl rfl rfl rfl rfl (by simp; omega) (fun hM => (yLoadB st1.b10 rfl Try.underlying27 rfl Try.sizeOf27 rfl)) ?_
            refine lexQ rfl rfl rfl rfl (fun H hM => (yMove (v := .int _ _) rfl rfl)) ?_
            refine lexQ rfl rfl rfl rfl (fun H hM => (yMove (v := .slice _ _ _) rfl rfl)) ?_
            refine lexQ rfl rfl rfl rfl (fun H hM => (yMove (v := .int _ _) rfl rfl)) ?_
            refine lexQ rfl rfl rfl rfl (fun H hM => (yIdx1 rfl Try.underlying22 Try.sizeOf3 rfl rfl rfl hk)) ?_
            refine lexQ rfl rfl rfl rfl (fun H hM => (yLoad rfl Try.underlying3 rfl rfl (hM.cell hq (by simpa [block_of_add] using hqm)))) ?_
            refine lexQ rfl rfl rfl rfl (fun H hM => (ySub rfl rfl rfl (by unfold In64; omega))) ?_
            refine lexQ rfl rfl rfl rfl (fun H hM => (yBuild (pl := [(0, 1), (1, 1), (2, 1)]) (vs := [(0, .int _ _), (1, .int _ _), (2, .int _ _)]) rfl Try.underlying43 Try.zeroValue43 rfl (by unfold Places; kernel_rfl) rfl rfl)) ?_
            -- e slot 107: call F23<farandole/zone.Add> t99 t106
            refine lexE0 rfl rfl rfl rfl rfl (fun hM107 => stepCall rfl Try.call23 rfl ?_)
            obtain ⟨L1, e1, v1, s1⟩ := addK st1.val (X := (k : Int)) (Y := -1) (i := k + 1) (j := 0) (by omega) (by omega) (by omega) (by omega) (-mt (dm z) L 0 (k + 1) - 1)
            have hc := add_c zz (k : Int) (-1) (-mt (dm z) L 0 (k + 1) - 1) B cb Hi st1.rd.rd
            rw [e1] at hc
            refine hc.mono ?_
            rintro v Hc ⟨hxc, u, rfl, B1, cb1, rfl, ho⟩
            refine ⟨hxc.keep _, [g10], by have := hxc.size; simp; omega, ?_⟩
            refine lexQ rfl rfl rfl rfl (fun H hM => (yMove (v := .tuple _) rfl rfl)) ?_
            refine lexQ rfl rfl rfl rfl (fun H hM => (yExtract (v := .agg _) rfl rfl rfl)) ?_
            refine lexQ rfl rfl rfl rfl (fun H hM => (yExtract (v := .int _ _) rfl rfl rfl)) ?_
            -- e slot None: store T27 t10 t108
            refine lexE00 rfl rfl rfl rfl rfl (fun hMNone => stepStoreB rfl (by kernel_rfl) rfl rfl rfl (st1.b10.ext hxc) rfl ?_)
            intro Hs hBs hKs
            refine lexSt hKs (by simp) (by have := hxc.size; simp; omega) ?_
            -- tail
            refine lexNil0 rfl (fun hM => ?_)
            have st2 := st1.step hxc v1 (fun vs h => ((s1 vs).1 h).1) ho hBs hKs
            clear st1 rdm1 hxc ho hBs hKs hc hq
            refine seqNil ?_
            refine hF27 _ _ ?_; clear hF27
            refine wpSeq fun F28 hF28 => ?_
            refine wpRegion ?_
            refine seqQ rfl rfl (yLoadB st2.b10 rfl Try.underlying27 rfl Try.sizeOf27 rfl) ?_
            -- e slot 112: call F17<farandole/zone.Model> t111
            refine seqE rfl rfl (stepCall rfl Try.call17 rfl ?_)
            have hno := mod_none v1 (fun vs h => by
              have h1 := (s1 vs).1 h
              have h2 := modL_least hB (st2.sub vs h) (a := k + 1) (by omega)
              have h3 : num vs 0 = 0 := rfl
              omega)
            have hc := model_c ⟨zz.N, L1⟩ B1 cb1 Hs st2.rd.rd (by have := st2.eq; dsimp only at this ⊢; omega)
            rw [hno.1] at hc
            refine hc.mono ?_
            rintro v Ht ⟨hxt, u, rfl, ho⟩
            obtain ⟨A9, c9, rfl, -⟩ := ho.form
            refine seqQ rfl rfl (yMove (v := .tuple _) rfl rfl) ?_
            refine seqQ rfl rfl (yExtract (v := .slice _ _ _) rfl rfl rfl) ?_
            refine seqQ rfl rfl (yExtract (v := .bool _) rfl rfl rfl) ?_
            refine seqQ rfl rfl (yAssign (v := .slice _ _ _) rfl rfl) ?_
            refine seqQ rfl rfl (yAssign (v := .bool _) rfl rfl) ?_
            refine seqNil ?_
            refine hF28 _ _ ?_; clear hF28
            refine wpSeq fun F29 hF29 => ?_
            refine wpRegion ?_
            refine seqQ rfl rfl (yMove (v := .bool _) rfl rfl) ?_
            refine seqQ rfl rfl (yNot rfl rfl) ?_
            refine seqQ rfl rfl (yAssign (v := .bool _) rfl rfl) ?_
            refine seqNil ?_
            refine hF29 _ _ ?_; clear hF29
            -- ret
            refine wpRet (fin1 (v := .bool _) rfl rfl ?_)
            exact ⟨rfl, st2.ext.trans hxt⟩
set_option maxRecDepth 100000 in
set_option maxRecDepth 100000 in
theorem zoneModels_lifted (os : Os) (started : os.Started) (H : Type) (enc : TypeId × Value → H) :
    ReturnsInHanded {} Try.checked os 6 .any (Rows.zoneModelsSpec.pre6 enc Try.prog Try.f6 Rows.zoneModelsRow.domain false) (Rows.zoneModelsSpec.post enc Try.prog Try.f6 false true false false) := by
  refine law_lifted started Rows.zoneModelsSpec rfl (by kernel_rfl) Try.func6 rfl
    (fun ds h => by match ds, h with | [_, _], _ => rfl) (of_decide_eq_true (by kernel_rfl))
    (ChangeSpec.witness6 (enc := enc) (C := Try.checked) false ⟨#[], #[.agg #[.int .i64 0, .slice none 0 0], .int .u8 0], []⟩ 8 (by kernel_rfl) (by kernel_rfl) (by kernel_rfl) (by kernel_rfl)) ?_
  intro W base args ds p hval hA
  rw [Try.params6] at hA hval
  obtain ⟨v0, v1, d0, d1, p0, p1, rfl, rfl, rfl, h0, h1⟩ := trodAll_two hA
  have g0 := hval 0 _ v0 rfl rfl
  have g1 := hval 1 _ v1 rfl rfl
  obtain ⟨⟨z, A, ca⟩, rfl, kA, -⟩ := (opn_zn W).agg Try.underlying24 rfl g0 h0
  obtain ⟨n, rfl, hn⟩ := (opn_u8i Try.underlying5 (by kernel_rfl)).one (one_int Try.underlying5 g1) h1
  obtain ⟨k, rfl⟩ := Int.eq_ofNat_of_zero_le hn.1
  exact zModels_walk z k (by omega) A ca W.heap kA
set_option maxRecDepth 100000 in
theorem zoneModels_holds : Rows.ZoneModelsSaid :=
  OpenClaim.holds_of_wide 6 Try.f6 rfl rfl rfl rfl rfl rfl rfl ⟨rfl, rfl, rfl, rfl, rfl⟩ rfl rfl rfl rfl rfl (by kernel_rfl) Try.func6 (by kernel_rfl)
    (of_decide_eq_true (by kernel_rfl)) (by unfold Func.isWrapper; first | (rw [if_pos (by decide +kernel)]; kernel_rfl) | (rw [if_neg (by decide +kernel)]; exact ⟨rfl, rfl⟩))
    (fun os started H enc _ => zoneModels_lifted os started H enc)
end Go.Proofs.Ytjkbkmbblidipaa
