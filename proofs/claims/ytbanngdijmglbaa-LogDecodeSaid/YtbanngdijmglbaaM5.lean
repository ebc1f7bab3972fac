/- Package log: further entries. -/
import Derived.Test.YtbanngdijmglbaaM4
namespace Go.Proofs.Ytbanngdijmglbaa
open Go.RowKit

def lastC (l : List Ent) (roles : Int) : List Int := match l.getLast? with
  | none => List.replicate roles.toNat 0
  | some e => e.clk
set_option maxRecDepth 100000 in
theorem lastC_nil (roles : Int) : lastC [] roles = List.replicate roles.toNat 0 := rfl
set_option maxRecDepth 100000 in
theorem lastC_ent {l : List EH} (hl : 0 < l.length) (roles : Int) : lastC (l.map EH.ent) roles = l[l.length - 1].clk := by
  unfold lastC
  rw [List.getLast?_eq_getElem?, List.getElem?_map, List.length_map, List.getElem?_eq_getElem (by omega)]
  rfl
set_option maxRecDepth 100000 in
theorem cloneV_c (A : Option Addr) (c : Nat) (l : List Val) (H : Heap) (hA : Rd eWV H A l) (hl : l.length ≤ 1000000000) :
    CallsH Try.prog 50 [.slice A l.length c] H fun v H' => Own eWV 88 H' H.size v l ∧ Ext H H' := by
  refine callsH_of Try.func50 rfl Try.ntmps50 (Nat.le_of_ble_eq_true rfl) ?_
  refine wpSeq fun F1 hF1 => ?_
  refine wpRegion ?_
  refine seqQ rfl rfl (yAssign (v := .slice _ _ _) rfl rfl) ?_
  refine seqNil ?_
  refine hF1 _ _ ?_; clear hF1
  refine wpSeq fun F2 hF2 => ?_
  refine wpSeq fun F3 hF3 => ?_
  refine wpRegion ?_
  refine seqQ rfl rfl (yMove (v := .slice _ _ _) rfl rfl) ?_
  refine seqQ rfl rfl (yEqlNil rfl Try.underlying24 rfl rfl) ?_
  refine seqNil ?_
  refine hF3 _ _ ?_; clear hF3
  -- if t4
  refine wpCond rfl (fun hn => ?_) (fun hn => ?_)
  · skip
    obtain rfl : A = none := by simpa using hn
    have : l = [] := by
      cases l with
      | nil => rfl
      | cons x l => obtain ⟨p, e, _⟩ := hA (by simp); cases e
    subst this
    refine wpSeq fun F4 hF4 => ?_
    refine wpRegion ?_
    refine seqQ rfl rfl (yAssign (v := .slice _ _ _) rfl rfl) ?_
    refine seqNil ?_
    refine hF4 _ _ ?_; clear hF4
    -- ret
    refine wpRet (fin1 (v := .slice _ _ _) rfl rfl ?_)
    exact ⟨Own.nil _ _, Ext.refl _⟩
  · skip
    refine wpSkip ?_
    refine hF2 _ _ ?_; clear hF2
    refine wpSeq fun F5 hF5 => ?_
    refine wpRegion ?_
    refine seqN rfl rfl (nBuildSliceN (vs := []) rfl Try.underlying24 Try.sizeOf88 Try.zeroValue88 rfl rfl rfl rfl rfl) (fun g5 H5 hx5 hB5 hg5 hl5 => ?_)
    refine seqQ rfl rfl (yMove (v := .slice _ _ _) rfl rfl) ?_
    -- e slot 7: builtin append t5 t6 : [24, 24]
    refine seqE rfl rfl (stepApp (c := eWV) (Own.lit (c := eWV) (l := []) (base := H.size) hB5 hg5 (by simp)) rfl Try.underlying24 elem_val rfl (by omega) rfl rfl rfl (hA.ext hx5) (by simp; omega) hx5.size ?_)
    intro v H1 hown hgrew
    obtain ⟨A2, c2, rfl, -⟩ := hown.form
    refine seqQ rfl rfl (yAssign (v := .slice _ _ _) rfl rfl) ?_
    refine seqNil ?_
    refine hF5 _ _ ?_; clear hF5
    -- ret
    refine wpRet (fin1 (v := .slice _ _ _) rfl rfl ?_)
    exact ⟨by simpa using hown, hgrew.ext hx5 (by rintro g e; obtain rfl := Option.some.inj e; exact hg5)⟩
set_option maxRecDepth 100000 in
theorem last_c (l : List EH) (A : Option Addr) (ca : Nat) (roles : Int) (H : Heap) (h : Rd eEH H A l) (hr : 1 ≤ roles ∧ roles ≤ 6) (hl : l.length ≤ 1000) (hc : ∀ x ∈ l, Rd eInt H x.CA x.clk) :
    CallsH Try.prog 37 [.slice A l.length ca, .int .i64 roles] H fun v H' => ∃ B cb, v = .slice B (lastC (l.map EH.ent) roles).length cb ∧ Rd eInt H' B (lastC (l.map EH.ent) roles) ∧ Ext H H' := by
  refine callsH_of Try.func37 rfl Try.ntmps37 (Nat.le_of_ble_eq_true rfl) ?_
  refine wpSeq fun F1 hF1 => ?_
  refine wpRegion ?_
  refine seqQ rfl rfl (yAssign (v := .slice _ _ _) rfl rfl) ?_
  refine seqNil ?_
  refine hF1 _ _ ?_; clear hF1
  refine wpSeq fun F2 hF2 => ?_
  refine wpSeq fun F3 hF3 => ?_
  refine wpRegion ?_
  refine seqQ rfl rfl (yMove (v := .slice _ _ _) rfl rfl) ?_
  refine seqQ rfl rfl (yLen rfl Try.underlying35 rfl) ?_
  refine seqQ rfl rfl (yEql rfl rfl rfl) ?_
  refine seqNil ?_
  refine hF3 _ _ ?_; clear hF3
  -- if t7
  refine wpCond rfl (fun h0 => ?_) (fun h0 => ?_)
  · skip
    have h0 : l.length = 0 := by simpa using h0
    have hn : l = [] := List.eq_nil_of_length_eq_zero h0
    refine wpSeq fun F4 hF4 => ?_
    refine wpRegion ?_
    refine seqQ rfl rfl (yMove (v := .int _ _) rfl rfl) ?_
    -- e slot 9: makeSlice T44 t8 t8
    refine seqE rfl rfl (stepMake (c := eInt) (z := 0) rfl Try.underlying44 elem_eInt rfl (by omega) rfl rfl (show roles = ((roles.toNat : Nat) : Int) by omega) (by omega) ?_)
    intro g H1 hx hg hown
    refine seqQ rfl rfl (yAssign (v := .slice _ _ _) rfl rfl) ?_
    refine seqNil ?_
    refine hF4 _ _ ?_; clear hF4
    -- ret
    refine wpRet (fin1 (v := .slice _ _ _) rfl rfl ?_)
    rw [hn]
    exact ⟨some ⟨g, 0, none⟩, roles.toNat, by rw [List.map_nil, lastC_nil, List.length_replicate], (Own.rd hown).2, hx⟩
  · skip
    have h0 : 0 < l.length := List.length_pos_iff.2 (by simpa using h0)
    have hk : l.length - 1 < l.length := by omega
    obtain ⟨p, rfl, hp⟩ := h.at hk
    have hcl := hc _ (List.getElem_mem hk)
    have e := lastC_ent h0 roles
    generalize l[l.length - 1] = x at *
    refine wpSkip ?_
    refine hF2 _ _ ?_; clear hF2
    refine wpSeq fun F5 hF5 => ?_
    refine wpRegion ?_
    refine seqQ rfl rfl (yMove (v := .slice _ _ _) rfl rfl) ?_
    refine seqQ rfl rfl (yMove (v := .slice _ _ _) rfl rfl) ?_
    refine seqQ rfl rfl (yLen rfl Try.underlying35 rfl) ?_
    refine seqQ rfl rfl (ySubE rfl rfl rfl (by unfold In64; omega) (show (l.length : Int) - 1 = ((l.length - 1 : Nat) : Int) by omega)) ?_
    refine seqQ rfl rfl (yIdx rfl Try.underlying35 Try.sizeOf72 rfl rfl rfl hk) ?_
    refine seqQ rfl rfl (yFieldAddr rfl Try.underlying72 rfl Try.sizeOf44 rfl rfl) ?_
    refine seqQ rfl rfl (yLoad rfl Try.underlying44 rfl rfl (hp 5 _ rfl)) ?_
    refine seqQ rfl rfl (yAssign (v := .slice _ _ _) rfl rfl) ?_
    refine seqNil ?_
    refine hF5 _ _ ?_; clear hF5
    -- ret
    refine wpRet (fin1 (v := .slice _ _ _) rfl rfl ?_)
    rw [e]
    exact ⟨x.CA, x.cc, rfl, hcl, Ext.refl _⟩
set_option maxRecDepth 100000 in
theorem rlast_c (l : List EH) (A : Option Addr) (ca : Nat) (roles : Int) (H : Heap) (h : Rd eEH H A l) (hr : 1 ≤ roles ∧ roles ≤ 6) (hl : l.length ≤ 1000) (hc : ∀ x ∈ l, Rd eInt H x.CA x.clk) :
    CallsH Try.prog 41 [.slice A l.length ca, .int .i64 roles] H fun v H' => ∃ B cb, v = .slice B (lastC (l.map EH.ent) roles).length cb ∧ Rd eInt H' B (lastC (l.map EH.ent) roles) ∧ Ext H H' := by
  refine callsH_of Try.func41 rfl Try.ntmps41 (Nat.le_of_ble_eq_true rfl) ?_
  refine wpSeq fun F1 hF1 => ?_
  refine wpRegion ?_
  refine seqQ rfl rfl (yAssign (v := .slice _ _ _) rfl rfl) ?_
  refine seqNil ?_
  refine hF1 _ _ ?_; clear hF1
  refine wpSeq fun F2 hF2 => ?_
  refine wpSeq fun F3 hF3 => ?_
  refine wpRegion ?_
  refine seqQ rfl rfl (yMove (v := .slice _ _ _) rfl rfl) ?_
  refine seqQ rfl rfl (yLen rfl Try.underlying23 rfl) ?_
  refine seqQ rfl rfl (yEql rfl rfl rfl) ?_
  refine seqNil ?_
  refine hF3 _ _ ?_; clear hF3
  -- if t7
  refine wpCond rfl (fun h0 => ?_) (fun h0 => ?_)
  · skip
    have h0 : l.length = 0 := by simpa using h0
    have hn : l = [] := List.eq_nil_of_length_eq_zero h0
    refine wpSeq fun F4 hF4 => ?_
    refine wpRegion ?_
    refine seqQ rfl rfl (yMove (v := .int _ _) rfl rfl) ?_
    -- e slot 9: makeSlice T28 t8 t8
    refine seqE rfl rfl (stepMake (c := eInt) (z := 0) rfl Try.underlying28 elem_eInt rfl (by omega) rfl rfl (show roles = ((roles.toNat : Nat) : Int) by omega) (by omega) ?_)
    intro g H1 hx hg hown
    refine seqQ rfl rfl (yAssign (v := .slice _ _ _) rfl rfl) ?_
    refine seqNil ?_
    refine hF4 _ _ ?_; clear hF4
    -- ret
    refine wpRet (fin1 (v := .slice _ _ _) rfl rfl ?_)
    rw [hn]
    exact ⟨some ⟨g, 0, none⟩, roles.toNat, by rw [List.map_nil, lastC_nil, List.length_replicate], (Own.rd hown).2, hx⟩
  · skip
    have h0 : 0 < l.length := List.length_pos_iff.2 (by simpa using h0)
    have hk : l.length - 1 < l.length := by omega
    obtain ⟨p, rfl, hp⟩ := h.at hk
    have hcl := hc _ (List.getElem_mem hk)
    have e := lastC_ent h0 roles
    generalize l[l.length - 1] = x at *
    refine wpSkip ?_
    refine hF2 _ _ ?_; clear hF2
    refine wpSeq fun F5 hF5 => ?_
    refine wpRegion ?_
    refine seqQ rfl rfl (yMove (v := .slice _ _ _) rfl rfl) ?_
    refine seqQ rfl rfl (yMove (v := .slice _ _ _) rfl rfl) ?_
    refine seqQ rfl rfl (yLen rfl Try.underlying23 rfl) ?_
    refine seqQ rfl rfl (ySubE rfl rfl rfl (by unfold In64; omega) (show (l.length : Int) - 1 = ((l.length - 1 : Nat) : Int) by omega)) ?_
    refine seqQ rfl rfl (yIdx rfl Try.underlying23 Try.sizeOf86 rfl rfl rfl hk) ?_
    refine seqQ rfl rfl (yFieldAddr rfl Try.underlying86 rfl Try.sizeOf28 rfl rfl) ?_
    refine seqQ rfl rfl (yLoad rfl Try.underlying28 rfl rfl (hp 5 _ rfl)) ?_
    refine seqQ rfl rfl (yAssign (v := .slice _ _ _) rfl rfl) ?_
    refine seqNil ?_
    refine hF5 _ _ ?_; clear hF5
    -- ret
    refine wpRet (fin1 (v := .slice _ _ _) rfl rfl ?_)
    rw [e]
    exact ⟨x.CA, x.cc, rfl, hcl, Ext.refl _⟩
/-- What an entry refers to, own and apart from a slice. -/
structure EhOwn (out : Value) (b : Nat) (H : Heap) (x : EH) : Prop where
  vals : Own eWV 88 H b (.slice x.VA x.ev.values.length x.vc) x.ev.values
  clk : Own eInt 3 H b (.slice x.CA x.clk.length x.cc) x.clk
  av : Apart out (.slice x.VA x.ev.values.length x.vc)
  ac : Apart out (.slice x.CA x.clk.length x.cc)
set_option maxRecDepth 100000 in
theorem EhOwn.rd {out : Value} {b : Nat} {H : Heap} {x : EH} (h : EhOwn out b H x) : EhRd H x := ⟨(Own.rd h.vals).2, (Own.rd h.clk).2⟩
set_option maxRecDepth 100000 in
theorem EhOwn.grew {out out' : Value} {b : Nat} {H H' : Heap} {x : EH} (h : EhOwn out b H x) (hg : Grew H out H' out') : EhOwn out' b H' x :=
  ⟨h.vals.grew hg h.av, h.clk.grew hg h.ac, h.av.grew h.vals hg, h.ac.grew h.clk hg⟩
set_option maxRecDepth 100000 in
theorem EhOwn.ext {out : Value} {b : Nat} {H H' : Heap} {x : EH} (h : EhOwn out b H x) (hx : Ext H H') : EhOwn out b H' x := ⟨h.vals.ext hx, h.clk.ext hx, h.av, h.ac⟩
set_option maxRecDepth 100000 in
theorem EhOwn.keep {out : Value} {b g : Nat} {H H0 H' : Heap} {x : EH} (h : EhOwn out b H x) (hx : Ext H H0) (hK : Keep [g] H0 H') (hg : H.size ≤ g) : EhOwn out b H' x :=
  ⟨(h.vals.ext hx).keep hK (fun j hj => by have := (h.vals.lt j hj).2; simp; omega), (h.clk.ext hx).keep hK (fun j hj => by have := (h.clk.lt j hj).2; simp; omega), h.av, h.ac⟩
/-- A log that is all own. -/
structure LogOwn (b : Nat) (T : TypeId) (H : Heap) (v : Value) (l : List EH) : Prop where
  own : Own eEH T H b v l
  ents : ∀ x ∈ l, EhOwn v b H x
set_option maxRecDepth 100000 in
theorem LogOwn.ext {b : Nat} {T : TypeId} {H H' : Heap} {v : Value} {l : List EH} (h : LogOwn b T H v l) (hx : Ext H H') : LogOwn b T H' v l := ⟨h.own.ext hx, fun x hm => (h.ents x hm).ext hx⟩
set_option maxRecDepth 100000 in
theorem LogOwn.rd {b : Nat} {T : TypeId} {H : Heap} {A : Option Addr} {n c : Nat} {l : List EH} (h : LogOwn b T H (.slice A n c) l) : LogRd H A l := ⟨(Own.rd h.own).2, fun x hm => (h.ents x hm).rd⟩
set_option maxRecDepth 100000 in
theorem LogOwn.nil (b : Nat) (T : TypeId) (H : Heap) : LogOwn b T H (.slice none 0 0) [] := ⟨Own.nil _ _, fun x h => by cases h⟩
set_option maxRecDepth 100000 in
theorem apart_lt {α : Type} {c : El α} {e : TypeId} {H : Heap} {b : Nat} {v u : Value} {l : List α} (h : Own c e H b u l) (hv : ∀ g, v.ownBlock = some g → H.size ≤ g ∨ g < b) : Apart v u := fun g hg hu => by
  have := h.lt g hu
  rcases hv g hg with h | h <;> omega
set_option maxRecDepth 100000 in
theorem added_c (l : List EH) (A : Option Addr) (ca : Nat) (e : Evt) (VA : Option Addr) (vc : Nat) (c : List Int) (CA : Option Addr) (cc : Nat) (b : Nat) (H : Heap) (h : LogRd H A l) (hs : LogSm l) (hv : Rd eWV H VA e.values) (hvl : e.values.length ≤ 100000) (hb : b ≤ H.size) (hc : Own eInt 3 H b (.slice CA c.length cc) c) :
    CallsH Try.prog 38 [.slice A l.length ca, .agg (evC e VA vc).toArray, .slice CA c.length cc] H fun v H' => ∃ l', LogOwn b 72 H' v l' ∧ l'.map EH.ent = l.map EH.ent ++ [⟨e, c⟩] ∧ Ext H H' := by
  have s1 := hs.1
  refine callsH_of Try.func38 rfl Try.ntmps38 (Nat.le_of_ble_eq_true rfl) ?_
  refine wpSeq fun F1 hF1 => ?_
  refine wpRegion ?_
  refine seqN rfl rfl (nBoxA rfl rfl) (fun g4 H4 hx4 hB4 hg4 hl4 => ?_)
  refine seqQ rfl rfl (yAssign (v := .slice _ _ _) rfl rfl) ?_
  refine seqNil ?_
  refine hF1 _ _ ?_; clear hF1
  refine wpSeq fun F2 hF2 => ?_
  refine wpRegion ?_
  refine seqQ rfl rfl (yFieldAddr rfl Try.underlying26 rfl Try.sizeOf24 rfl rfl) ?_
  refine seqQ rfl rfl (yLoad rfl Try.underlying24 rfl rfl (hB4.cell rfl)) ?_
  -- e slot 12: call F50<slices.Clone[[]farandole/api.Value,farandole/api.Value]> t11
  refine seqE rfl rfl (stepCall rfl Try.call50 rfl ?_)
  refine (cloneV_c VA vc e.values H4 (hv.ext hx4) (by omega)).mono ?_
  rintro v H1 ⟨o1, x1⟩
  obtain ⟨V1, c1, rfl, -⟩ := o1.form
  refine seqQ rfl rfl (yFieldAddr rfl Try.underlying26 rfl Try.sizeOf24 rfl rfl) ?_
  -- e slot None: store T24 t13 t12
  refine seqE0 rfl rfl (stepStore rfl Try.sizeOf24 rfl rfl rfl rfl (hB4.ext x1) (Nat.le_of_ble_eq_true rfl) ?_)
  intro H2 h2 hK2
  replace h2 : Blk H2 g4 (evC e V1 c1) 26 := h2
  have z4 := hx4.size
  have z1 := x1.size
  have z2 := hK2.size
  have hE2 : Ext H H2 := (hx4.trans x1).mine hK2 (by simp; omega)
  have oV : Own eWV 88 H2 H4.size (.slice V1 e.values.length c1) e.values := o1.keep hK2 (fun g hg => by have := (o1.lt g hg).1; simp; omega)
  have oC : Own eInt 3 H2 b (.slice CA c.length cc) c := ((hc.ext hx4).ext x1).keep hK2 (fun g hg => by have := (hc.lt g hg).2; simp; omega)
  clear hB4 hK2 o1 hx4 x1
  refine seqNil ?_
  refine hF2 _ _ ?_; clear hF2
  refine wpSeq fun F3 hF3 => ?_
  refine wpRegion ?_
  refine seqQ rfl rfl (yMove (v := .slice _ _ _) rfl rfl) ?_
  refine seqQ rfl rfl (yLen rfl Try.underlying35 rfl) ?_
  refine seqQ rfl rfl (yAdd rfl rfl rfl (by unfold In64; omega)) ?_
  -- e slot 17: makeSlice T35 [i:i64:0] t16
  refine seqE rfl rfl (stepMake0 (c := eEH) rfl Try.underlying35 elem_ent (by omega) rfl rfl (show ((l.length : Int) + 1) = ((l.length + 1 : Nat) : Int) by omega) (by omega) ?_)
  intro g17 H17 hx17 hg17 hl17 o17
  have aV : Apart (.slice (some ⟨g17, 0, none⟩) 0 (l.length + 1)) (.slice V1 e.values.length c1) := apart_lt oV (by rintro g hg; obtain rfl := Option.some.inj hg; exact .inl hg17)
  have aC : Apart (.slice (some ⟨g17, 0, none⟩) 0 (l.length + 1)) (.slice CA c.length cc) := apart_lt oC (by rintro g hg; obtain rfl := Option.some.inj hg; exact .inl hg17)
  have z17 := hx17.size
  refine seqQ rfl rfl (yAssign (v := .slice _ _ _) rfl rfl) ?_
  refine seqNil ?_
  refine hF3 _ _ ?_; clear hF3
  refine wpSeq fun F4 hF4 => ?_
  refine wpSeq fun F5 hF5 => ?_
  refine wpRegion ?_
  refine seqQ rfl rfl (yMove (v := .slice _ _ _) rfl rfl) ?_
  refine seqQ rfl rfl (yLen rfl Try.underlying35 rfl) ?_
  refine seqQ rfl rfl (yMove (v := .int _ _) rfl rfl) ?_
  refine seqNil ?_
  refine hF5 _ _ ?_; clear hF5
  -- loop
  refine wpBlock ?_
  refine wpLoopS [7, 9, 20, 21, 22, 23, 24, 25, 26, 27, 28, 29, 30, 31, 32, 33, 34, 35, 36, 37, 38, 39] (fun x : Nat × Value × List EH => [(20, .int .i64 x.1), (7, x.2.1)]) (fun x H' => x.1 ≤ l.length ∧ Ext H H' ∧ H17.size ≤ H'.size ∧ Blk H' g4 (evC e V1 c1) 26 ∧ LogOwn b 72 H' x.2.1 x.2.2 ∧ x.2.2.map EH.ent = (l.take x.1).map EH.ent ∧ EhOwn x.2.1 b H' ⟨e, V1, c1, c, CA, cc⟩ ∧ (∀ g, x.2.1.ownBlock = some g → H2.size ≤ g)) (fun x => l.length - x.1) (0, .slice (some ⟨g17, 0, none⟩) 0 (l.length + 1), []) ⟨rfl, rfl, trivial⟩ ⟨Nat.zero_le _, hE2.trans hx17, Nat.le_refl _, h2.ext hx17, ⟨o17.mono (by omega), fun x h => by cases h⟩, rfl, ⟨(oV.ext hx17).mono (by omega), oC.ext hx17, aV, aC⟩, by rintro g hg; obtain rfl := Option.some.inj hg; exact hg17⟩ ?_
  clear oV oC aV aC o17 h2 hc
  rintro ⟨k, out, l'⟩ J Hk ⟨hk, hE, hsz, h4, lo, hmap, he, hob⟩
  dsimp only at hk lo hmap he hob
  have hll : l'.length = k := by have := congrArg List.length hmap; simp at this; omega
  obtain ⟨O, oc, rfl, -⟩ := lo.own.form
  have zE := hE.size
  refine wpSeq fun F6 hF6 => ?_
  refine wpRegion ?_
  refine seqQ rfl rfl (yLss rfl rfl rfl) ?_
  refine seqNil ?_
  refine hF6 _ _ ?_; clear hF6
  refine wpSeq fun F7 hF7 => ?_
  -- if t21
  refine wpIf rfl (fun hlt => ?_) (fun hlt => ?_)
  · skip
    have hkl : k < l.length := by omega
    obtain ⟨p, ep, hp⟩ := (h.1.ext hE).at hkl
    obtain ⟨hvi, hci⟩ := h.2 _ (List.getElem_mem hkl)
    obtain ⟨hsv, hsc⟩ := hs.2 _ (List.getElem_mem hkl)
    have hmap1 : (l.take (k + 1)).map EH.ent = (l.take k).map EH.ent ++ [l[k].ent] := by rw [List.take_succ_eq_append_getElem hkl, List.map_append]; rfl
    generalize l[k] = x at *
    refine wpSkip ?_
    refine hF7 _ _ ?_; clear hF7
    refine wpSeq fun F8 hF8 => ?_
    refine wpBlock ?_
    refine wpSeq fun F9 hF9 => ?_
    refine wpRegion ?_
    refine seqQ rfl rfl (yIdxP rfl Try.underlying35 Try.sizeOf72 rfl rfl ep rfl hkl) ?_
    refine seqQ rfl rfl (yLoadC (cs := eEH.F x) rfl Try.underlying72 rfl Try.sizeOf72 rfl hp) ?_
    refine seqN rfl rfl (nAlloc rfl Try.zeroValue72 rfl) (fun g9 H9 hx9 hB9 hg9 hl9 => ?_)
    -- e slot None: store T72 t9 t23
    refine seqE0 rfl rfl (stepStoreB rfl (by kernel_rfl) rfl rfl rfl hB9 rfl ?_)
    intro H3 h9 hK3
    have z9 := hx9.size
    have z3 := hK3.size
    have l4 := h4.lt
    have hE3 : Ext H H3 := (hE.trans hx9).mine hK3 (by simp; omega)
    replace h4 := (h4.ext hx9).keep hK3 (by simp; omega)
    have lo3 : LogOwn b 72 H3 (.slice O l'.length oc) l' := ⟨(lo.own.ext hx9).keep hK3 (fun g hg => by have := (lo.own.lt g hg).2; simp; omega), fun y hy => (lo.ents y hy).keep hx9 hK3 hg9⟩
    have he3 := he.keep hx9 hK3 hg9
    clear hK3 hx9 hB9
    refine seqNil ?_
    refine hF9 _ _ ?_; clear hF9
    refine wpSeq fun F10 hF10 => ?_
    refine wpRegion ?_
    refine seqQ rfl rfl (yFieldAddr rfl Try.underlying72 rfl Try.sizeOf26 rfl rfl) ?_
    refine seqQ rfl rfl (yFieldAddr rfl Try.underlying26 rfl Try.sizeOf24 rfl rfl) ?_
    refine seqQ rfl rfl (yLoad rfl Try.underlying24 rfl rfl (h9.cell (j := 4) rfl)) ?_
    -- e slot 27: call F50<slices.Clone[[]farandole/api.Value,farandole/api.Value]> t26
    refine seqE rfl rfl (stepCall rfl Try.call50 rfl ?_)
    refine (cloneV_c x.VA x.vc x.ev.values H3 (hvi.ext hE3) (by omega)).mono ?_
    rintro v Ha ⟨oa, xa⟩
    obtain ⟨Va, va, rfl, -⟩ := oa.form
    refine seqQ rfl rfl (yFieldAddr rfl Try.underlying72 rfl Try.sizeOf26 rfl rfl) ?_
    refine seqQ rfl rfl (yFieldAddr rfl Try.underlying26 rfl Try.sizeOf24 rfl rfl) ?_
    -- e slot None: store T24 t29 t27
    refine seqE0 rfl rfl (stepStore (j := 4) rfl Try.sizeOf24 rfl rfl rfl rfl (h9.ext xa) (show 4 < 6 by decide) ?_)
    intro Hb hb9 hKb
    replace hb9 : Blk Hb g9 (ehF ⟨x.ev, Va, va, x.clk, x.CA, x.cc⟩) 72 := hb9
    have za := xa.size
    have zb := hKb.size
    have l9 := h9.lt
    have hEb : Ext H Hb := (hE3.trans xa).mine hKb (by simp; omega)
    have lob : LogOwn b 72 Hb (.slice O l'.length oc) l' := ⟨(lo3.own.ext xa).keep hKb (fun g hg => by have := (lo.own.lt g hg).2; simp; omega), fun y hy => ⟨((lo3.ents y hy).vals.ext xa).keep hKb (fun j hj => by have := ((lo.ents y hy).vals.lt j hj).2; simp; omega), ((lo3.ents y hy).clk.ext xa).keep hKb (fun j hj => by have := ((lo.ents y hy).clk.lt j hj).2; simp; omega), (lo3.ents y hy).av, (lo3.ents y hy).ac⟩⟩
    have heb : EhOwn (.slice O l'.length oc) b Hb ⟨e, V1, c1, c, CA, cc⟩ := ⟨(he3.vals.ext xa).keep hKb (fun j hj => by have := (he.vals.lt j hj).2; simp; omega), (he3.clk.ext xa).keep hKb (fun j hj => by have := (he.clk.lt j hj).2; simp; omega), he3.av, he3.ac⟩
    have ob : Own eWV 88 Hb H3.size (.slice Va x.ev.values.length va) x.ev.values := oa.keep hKb (fun j hj => by have := (oa.lt j hj).1; simp; omega)
    have aV : Apart (.slice O l'.length oc) (.slice Va x.ev.values.length va) := apart_lt ob (fun g hg => .inr (by have := (lo.own.lt g hg).2; omega))
    replace h4 := (h4.ext xa).keep hKb (by simp; omega)
    clear lo3 he3 oa xa hKb h9
    refine seqNil ?_
    refine hF10 _ _ ?_; clear hF10
    refine wpRegionD Try_mixed [.q, .q, .q, .q, .q, .e, .q, .n, .e, .q] 8 [0, 0, 2, 0, 8, 24, 62, 126, 255, 511] [] (by kernel_rfl) _ rfl [0, 1, 2, 3, 4, 5, 6, 7] rfl (by simp) ?_
    refine lexQ rfl rfl rfl rfl (fun H hM => (yMove (v := .slice _ _ _) rfl rfl)) ?_
    refine lexQ rfl rfl rfl rfl (fun H hM => (yFieldAddr rfl Try.underlying72 rfl Try.sizeOf26 rfl rfl)) ?_
    refine lexQ rfl rfl rfl rfl (fun H hM => (yLoadC (cs := evC x.ev Va va) rfl Try.underlying26 rfl Try.sizeOf26 rfl (fun j u hu => hM.ext.cell (hb9.cell (ev_sub (x := ⟨x.ev, Va, va, x.clk, x.CA, x.cc⟩) hu))))) ?_
    refine lexQ rfl rfl rfl rfl (fun H hM => (yFieldAddr rfl Try.underlying72 rfl Try.sizeOf44 rfl rfl)) ?_
    refine lexQ rfl rfl rfl rfl (fun H hM => (yLoad rfl Try.underlying44 rfl rfl (hM.ext.cell (show cellH Hb ((⟨g9, 0, none⟩ : Addr).add 5) = some (.slice x.CA x.clk.length x.cc) from hb9.cell (j := 5) rfl)))) ?_
    -- e slot 35: call F72<slices.Clone[farandole/vclock.Clock,int]> t34
    refine lexX rfl rfl rfl rfl (by simp) (fun H35 hX35 hM35 hN35 => stepCall rfl Try.call72 rfl ?_)
    refine (clone_c x.CA x.cc x.clk H35 ((hci.ext hEb).ext hX35) (by omega)).mono ?_
    rintro v Hc ⟨oC, xc⟩
    refine ⟨xc, fun _ => ?_⟩
    obtain ⟨Cc, cC, rfl, -⟩ := oC.form
    refine lexQ rfl rfl rfl rfl (fun H hM => (yBuild (pl := [(0, 5), (5, 1)]) (vs := [(0, .agg _), (1, .slice _ _ _)]) rfl Try.underlying72 Try.zeroValue72 rfl (by unfold Places; kernel_rfl) rfl rfl)) ?_
    refine lexNB rfl rfl rfl rfl (nBuildSliceN (vs := [.agg _]) rfl Try.underlying35 Try.sizeOf72 Try.zeroValue72 rfl rfl rfl rfl rfl) (fun g37 hg37 hne37 => ?_)
    -- tail
    refine lexNil (fun K5 hX5 hM5 hN5 => ?_)
    -- e slot 38: builtin append t30 t37 : [35, 35]
    have zK := hX5.size
    have zc := xc.size
    have z35 := hX35.size
    have xK : Ext Hb K5 := (hX35.trans xc).trans hX5
    have aC : Apart (.slice O l'.length oc) (.slice Cc x.clk.length cC) := apart_lt oC (fun g hg => .inr (by have := (lob.own.lt g hg).2; omega))
    have hey : EhOwn (.slice O l'.length oc) b K5 ⟨x.ev, Va, va, x.clk, Cc, cC⟩ := ⟨(ob.ext xK).mono (by omega), (oC.ext hX5).mono (by omega), aV, aC⟩
    refine seqE rfl rfl (stepApp (c := eEH) (lob.own.ext xK) rfl Try.underlying35 elem_ent rfl (by omega) rfl rfl rfl (Blk.rd (c := eEH) (l := [⟨x.ev, Va, va, x.clk, Cc, cC⟩]) (NF.blk 7 hN5 (.head _))) (by simp only [List.length_singleton]; omega) (by omega) ?_)
    intro v' Hd od gd
    have lod : LogOwn b 72 Hd v' (l' ++ [⟨x.ev, Va, va, x.clk, Cc, cC⟩]) := ⟨od, fun y hy => by
      rcases List.mem_append.1 hy with hy | hy
      · exact ((lob.ents y hy).ext xK).grew gd
      · simp only [List.mem_singleton] at hy
        subst hy
        exact hey.grew gd⟩
    have hed := (heb.ext xK).grew gd
    have hEd : Ext H Hd := (hEb.trans xK).mine gd.1 (fun g hg => by rw [Option.mem_toList] at hg; have := hob g hg; omega)
    obtain ⟨Ad, cd, rfl, -⟩ := od.form
    refine seqQ rfl rfl (yAssign (v := .slice _ _ _) rfl rfl) ?_
    refine seqNil ?_
    refine hF8 _ _ ?_; clear hF8
    refine wpRegion ?_
    refine seqQ rfl rfl (yAdd rfl rfl rfl (by unfold In64; omega)) ?_
    refine seqQ rfl rfl (yMove (v := .int _ _) rfl rfl) ?_
    refine seqNil ?_
    -- end loop
    exact loopEnd (k + 1, .slice Ad _ cd, l' ++ [⟨x.ev, Va, va, x.clk, Cc, cC⟩]) (by repeat (first | (with_reducible exact Agree.refl _ _) | refine Agree.upd ?_ rfl | refine Agree.over ?_ rfl)) (by dsimp only; omega) ⟨rfl, rfl, trivial⟩ ⟨hkl, hEd, by have := gd.1.size; omega, (h4.ext xK).keep gd.1 (fun hg => by rw [Option.mem_toList] at hg; have := hob _ hg; omega), lod, by dsimp only; rw [List.map_append, hmap, hmap1]; rfl, hed, fun g hg => (by
      rcases gd.2 g hg with h | h
      · exact hob g h
      · omega)⟩
  · skip
    obtain rfl : k = l.length := by omega
    rw [List.take_length] at hmap
    refine wpExit ?_
    refine hF4 _ _ ?_; clear hF4
    refine wpSeq fun F11 hF11 => ?_
    refine wpRegion ?_
    refine seqQ rfl rfl (yMove (v := .slice _ _ _) rfl rfl) ?_
    refine seqQ rfl rfl (yLoadB h4 rfl Try.underlying26 rfl Try.sizeOf26 rfl) ?_
    refine seqQ rfl rfl (yMove (v := .slice _ _ _) rfl rfl) ?_
    refine seqQ rfl rfl (yBuild (pl := [(0, 5), (5, 1)]) (vs := [(0, .agg _), (1, .slice _ _ _)]) rfl Try.underlying72 Try.zeroValue72 rfl (by unfold Places; kernel_rfl) rfl rfl) ?_
    refine seqN rfl rfl (nBuildSliceN (vs := [.agg _]) rfl Try.underlying35 Try.sizeOf72 Try.zeroValue72 rfl rfl rfl rfl rfl) (fun g44 H44 hx44 hB44 hg44 hl44 => ?_)
    -- e slot 45: builtin append t40 t44 : [35, 35]
    refine seqE rfl rfl (stepApp (c := eEH) (lo.own.ext hx44) rfl Try.underlying35 elem_ent rfl (by omega) rfl rfl rfl (Blk.rd (c := eEH) (l := [⟨e, V1, c1, c, CA, cc⟩]) hB44) (by simp only [List.length_singleton]; omega) (by have := hx44.size; omega) ?_)
    intro v' Hd od gd
    have lod : LogOwn b 72 Hd v' (l' ++ [⟨e, V1, c1, c, CA, cc⟩]) := ⟨od, fun y hy => by
      rcases List.mem_append.1 hy with hy | hy
      · exact ((lo.ents y hy).ext hx44).grew gd
      · simp only [List.mem_singleton] at hy
        subst hy
        exact (he.ext hx44).grew gd⟩
    have hEd : Ext H Hd := (hE.trans hx44).mine gd.1 (fun g hg => by rw [Option.mem_toList] at hg; have := hob g hg; omega)
    obtain ⟨Ad, cd, rfl, -⟩ := od.form
    refine seqQ rfl rfl (yAssign (v := .slice _ _ _) rfl rfl) ?_
    refine seqNil ?_
    refine hF11 _ _ ?_; clear hF11
    -- ret
    refine wpRet (fin1 (v := .slice _ _ _) rfl rfl ?_)
    exact ⟨_, lod, by rw [List.map_append, hmap]; rfl, hEd⟩
end Go.Proofs.Ytbanngdijmglbaa
