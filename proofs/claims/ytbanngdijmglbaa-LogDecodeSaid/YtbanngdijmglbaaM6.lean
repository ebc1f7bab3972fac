/- The document's logs: further entries. Send and Receive. -/
import Derived.Test.YtbanngdijmglbaaM5
namespace Go.Proofs.Ytbanngdijmglbaa
open Go.RowKit

set_option maxRecDepth 100000 in
theorem with_c (l : List EH) (A : Option Addr) (ca : Nat) (e : Evt) (VA : Option Addr) (vc : Nat) (c : List Int) (CA : Option Addr) (cc : Nat) (H : Heap) (h : LogRd H A l) (hs : LogSm l) (hv : Rd eWV H VA e.values) (hvl : e.values.length ≤ 100000) (hc : Rd eInt H CA c) :
    CallsH Try.prog 42 [.slice A l.length ca, .agg (evC e VA vc).toArray, .slice CA c.length cc] H fun v H' => ∃ B cb l', v = .slice B (List.length (α := EH) l') cb ∧ LogRd H' B l' ∧ l'.map EH.ent = l.map EH.ent ++ [⟨e, c⟩] ∧ Ext H H' := by
  have s1 := hs.1
  refine callsH_of Try.func42 rfl Try.ntmps42 (Nat.le_of_ble_eq_true rfl) ?_
  refine wpSeq fun F1 hF1 => ?_
  refine wpRegion ?_
  refine seqN rfl rfl (nBoxA rfl rfl) (fun g4 H4 hx4 hB4 hg4 hl4 => ?_)
  refine seqQ rfl rfl (yAssign (v := .slice _ _ _) rfl rfl) ?_
  refine seqNil ?_
  refine hF1 _ _ ?_; clear hF1
  refine wpSeq fun F2 hF2 => ?_
  refine wpRegion ?_
  refine seqN rfl rfl (nBuildSliceN (vs := []) rfl Try.underlying24 Try.sizeOf88 Try.zeroValue88 rfl rfl rfl rfl rfl) (fun g7 H7 hx7 hB7 hg7 hl7 => ?_)
  refine seqQ rfl rfl (yFieldAddr rfl Try.underlying26 rfl Try.sizeOf24 rfl rfl) ?_
  refine seqQ rfl rfl (yLoad rfl Try.underlying24 rfl rfl ((hB4.ext hx7).cell rfl)) ?_
  -- e slot 10: builtin append t7 t9 : [24, 24]
  refine seqE rfl rfl (stepApp (c := eWV) (Own.lit (c := eWV) (l := []) (base := H4.size) hB7 hg7 (by simp)) rfl Try.underlying24 elem_val rfl (by omega) rfl rfl rfl ((hv.ext hx4).ext hx7) (by simp only [List.length_nil]; omega) hx7.size ?_)
  intro v H1 o1 g1
  rw [List.nil_append] at o1
  have x1 : Ext H4 H1 := g1.ext hx7 (by rintro g e; obtain rfl := Option.some.inj e; exact hg7)
  obtain ⟨V1, c1, rfl, -⟩ := o1.form
  refine seqQ rfl rfl (yFieldAddr rfl Try.underlying26 rfl Try.sizeOf24 rfl rfl) ?_
  -- e slot None: store T24 t11 t10
  refine seqE0 rfl rfl (stepStore rfl Try.sizeOf24 rfl rfl rfl rfl (hB4.ext x1) (Nat.le_of_ble_eq_true rfl) ?_)
  intro H2 h2 hK2
  replace h2 : Blk H2 g4 (evC e V1 c1) 26 := h2
  have z4 := hx4.size
  have z1 := x1.size
  have z2 := hK2.size
  have hE2 : Ext H H2 := (hx4.trans x1).mine hK2 (by simp; omega)
  have rV : Rd eWV H2 V1 e.values := (Own.rd (o1.keep hK2 (fun g hg => by have := (o1.lt g hg).1; simp; omega))).2
  clear hB4 hK2 o1 x1 hx4 hx7 hB7 g1
  refine seqNil ?_
  refine hF2 _ _ ?_; clear hF2
  refine wpSeq fun F3 hF3 => ?_
  refine wpRegionD Try_mixed [.n, .q, .e, .q, .q, .q, .n, .e, .q] 7 [0, 0, 3, 0, 0, 24, 56, 127, 255] [] (by kernel_rfl) _ rfl [0, 1, 2, 3, 4, 5, 6] rfl (by simp) ?_
  refine lexNB rfl rfl rfl rfl (nBuildSliceN (vs := []) rfl Try.underlying23 Try.sizeOf86 Try.zeroValue86 rfl rfl rfl rfl rfl) (fun g12 hg12 hne12 => ?_)
  refine lexQ rfl rfl rfl rfl (fun H hM => (yMove (v := .slice _ _ _) rfl rfl)) ?_
  -- e slot 14: builtin append t12 t13 : [23, 23]
  have hn12 : ∀ z ∈ ([] : List NF), z.g ≠ g12 := by simp
  refine lexEG rfl rfl rfl rfl (by first | assumption | omega) (by first | (dsimp only; rfl) | kernel_rfl) hn12 (fun Hs hXs hMs hBs hFs => stepApp (c := eEH) (Own.lit (c := eEH) (l := []) (base := H2.size) hBs hg12 (by simp)) rfl Try.underlying23 elem_entR rfl (by omega) rfl rfl rfl ((h.1.ext hE2).ext hMs.ext) (by simp only [List.length_nil]; omega) (hMs.ext.size) ?_)
  intro v H3 o3 g3
  rw [List.nil_append] at o3
  obtain ⟨A3, c3, rfl, -⟩ := o3.form
  have x3 : Ext H2 H3 := g3.ext hMs.ext (by rintro g e; obtain rfl := Option.some.inj e; exact hg12)
  refine lexApp rfl g3 (by simp) (by intro g e; exact (o3.lt g e).2) ?_
  refine lexQ rfl rfl rfl rfl (fun H hM => (yLoadB (h2.ext hM.ext) rfl Try.underlying26 rfl Try.sizeOf26 rfl)) ?_
  refine lexQ rfl rfl rfl rfl (fun H hM => (yMove (v := .slice _ _ _) rfl rfl)) ?_
  refine lexQ rfl rfl rfl rfl (fun H hM => (yBuild (pl := [(0, 5), (5, 1)]) (vs := [(0, .agg _), (1, .slice _ _ _)]) rfl Try.underlying86 Try.zeroValue86 rfl (by unfold Places; kernel_rfl) rfl rfl)) ?_
  refine lexNB rfl rfl rfl rfl (nBuildSliceN (vs := [.agg _]) rfl Try.underlying23 Try.sizeOf86 Try.zeroValue86 rfl rfl rfl rfl rfl) (fun g18 hg18 hne18 => ?_)
  -- tail
  refine lexNil (fun K5 hX5 hM5 hN5 => ?_)
  -- e slot 19: builtin append t14 t18 : [23, 23]
  have z3 := x3.size
  have z5 := hX5.size
  refine seqE rfl rfl (stepApp (c := eEH) (o3.ext hX5) rfl Try.underlying23 elem_entR rfl (by omega) rfl rfl rfl (Blk.rd (c := eEH) (l := [⟨e, V1, c1, c, CA, cc⟩]) (NF.blk 6 hN5 (.head _))) (by simp only [List.length_singleton]; omega) (by omega) ?_)
  intro v' H6 o6 g6
  have x6 : Ext H2 H6 := g6.ext (x3.trans hX5) (fun g e => (o3.lt g e).1)
  obtain ⟨A6, c6, rfl, -⟩ := o6.form
  refine seqQ rfl rfl (yAssign (v := .slice _ _ _) rfl rfl) ?_
  refine seqNil ?_
  refine hF3 _ _ ?_; clear hF3
  -- ret
  refine wpRet (fin1 (v := .slice _ _ _) rfl rfl ?_)
  refine ⟨A6, c6, _, rfl, ⟨(Own.rd o6).2, fun x hx => ?_⟩, by rw [List.map_append]; rfl, hE2.trans x6⟩
  rcases List.mem_append.1 hx with hx | hx
  · exact (h.2 x hx).ext (hE2.trans x6)
  · simp only [List.mem_singleton] at hx
    subst hx
    exact ⟨rV.ext x6, hc.ext (hE2.trans x6)⟩
/-- Send: the error and the log. -/
def sendL (l : List Ent) (role roles : Int) (e : Evt) : Int × List Ent := if ValidLog l role roles ∧ standsE e role roles ∧ e.send = true then (if 1000 ≤ l.length ∨ (tickF (lastC l roles) role).1 ≠ 0 then (6, []) else (0, l ++ [⟨e, (tickF (lastC l roles) role).2⟩])) else (1, [])
set_option maxRecDepth 100000 in
theorem sendL_bad {l : List Ent} {role roles : Int} {e : Evt} (h : ¬ (ValidLog l role roles ∧ standsE e role roles ∧ e.send = true)) : sendL l role roles e = (1, []) := if_neg h
set_option maxRecDepth 100000 in
theorem sendL_lim {l : List Ent} {role roles : Int} {e : Evt} (h : ValidLog l role roles ∧ standsE e role roles ∧ e.send = true) (h2 : 1000 ≤ l.length ∨ (tickF (lastC l roles) role).1 ≠ 0) : sendL l role roles e = (6, []) := by unfold sendL; rw [if_pos h, if_pos h2]
set_option maxRecDepth 100000 in
theorem sendL_ok {l : List Ent} {role roles : Int} {e : Evt} (h : ValidLog l role roles ∧ standsE e role roles ∧ e.send = true) (h2 : ¬ (1000 ≤ l.length ∨ (tickF (lastC l roles) role).1 ≠ 0)) : sendL l role roles e = (0, l ++ [⟨e, (tickF (lastC l roles) role).2⟩]) := by unfold sendL; rw [if_pos h, if_neg h2]
/-- Receive: the error and the log. -/
def recvL (l : List Ent) (role roles : Int) (e : Evt) (m : List Int) : Int × List Ent := if ValidLog l role roles ∧ standsE e role roles ∧ e.send = false then (if (receiveF (lastC l roles) m role).1 ≠ 0 then ((receiveF (lastC l roles) m role).1, []) else if 1000 ≤ l.length then (6, []) else (0, l ++ [⟨e, (receiveF (lastC l roles) m role).2⟩])) else (1, [])
set_option maxRecDepth 100000 in
theorem recvL_bad {l : List Ent} {role roles : Int} {e : Evt} {m : List Int} (h : ¬ (ValidLog l role roles ∧ standsE e role roles ∧ e.send = false)) : recvL l role roles e m = (1, []) := if_neg h
set_option maxRecDepth 100000 in
theorem recvL_err {l : List Ent} {role roles : Int} {e : Evt} {m : List Int} (h : ValidLog l role roles ∧ standsE e role roles ∧ e.send = false) (h2 : (receiveF (lastC l roles) m role).1 ≠ 0) : recvL l role roles e m = ((receiveF (lastC l roles) m role).1, []) := by unfold recvL; rw [if_pos h, if_pos h2]
set_option maxRecDepth 100000 in
theorem recvL_lim {l : List Ent} {role roles : Int} {e : Evt} {m : List Int} (h : ValidLog l role roles ∧ standsE e role roles ∧ e.send = false) (h2 : (receiveF (lastC l roles) m role).1 = 0) (h3 : 1000 ≤ l.length) : recvL l role roles e m = (6, []) := by unfold recvL; rw [if_pos h, if_neg (by simp [h2]), if_pos h3]
set_option maxRecDepth 100000 in
theorem recvL_ok {l : List Ent} {role roles : Int} {e : Evt} {m : List Int} (h : ValidLog l role roles ∧ standsE e role roles ∧ e.send = false) (h2 : (receiveF (lastC l roles) m role).1 = 0) (h3 : ¬ 1000 ≤ l.length) : recvL l role roles e m = (0, l ++ [⟨e, (receiveF (lastC l roles) m role).2⟩]) := by unfold recvL; rw [if_pos h, if_neg (by simp [h2]), if_neg h3]
set_option maxRecDepth 100000 in
theorem lastC_sm {l : List EH} (hs : LogSm l) {roles : Int} (hr : roles ≤ 6) : (lastC (l.map EH.ent) roles).length ≤ 100000 := by
  rcases Nat.eq_zero_or_pos l.length with h | h
  · rw [List.eq_nil_of_length_eq_zero h, List.map_nil, lastC_nil, List.length_replicate]
    omega
  · rw [lastC_ent h]
    exact (hs.2 _ (List.getElem_mem _)).2
set_option maxRecDepth 100000 in
theorem send_c (l : List EH) (A : Option Addr) (ca : Nat) (role roles : Int) (e : Evt) (VA : Option Addr) (vc : Nat) (H : Heap) (h : LogRd H A l) (hs : LogSm l) (hv : Rd eWV H VA e.values) (hvl : e.values.length ≤ 100000) :
    CallsH Try.prog 13 [.slice A l.length ca, .int .i64 role, .int .i64 roles, .agg (evC e VA vc).toArray] H fun v H' => ∃ B cb l', v = .tuple #[.slice B (List.length (α := EH) l') cb, .int .i64 (sendL (l.map EH.ent) role roles e).1] ∧ LogOwn H.size 72 H' (.slice B l'.length cb) l' ∧ l'.map EH.ent = (sendL (l.map EH.ent) role roles e).2 ∧ Ext H H' := by
  have hml : (l.map EH.ent).length = l.length := List.length_map _
  refine callsH_of Try.func13 rfl Try.ntmps13 (Nat.le_of_ble_eq_true rfl) ?_
  refine wpSeq fun F1 hF1 => ?_
  refine wpRegion ?_
  refine seqN rfl rfl (nBoxA rfl rfl) (fun g7 H7 hx7 hB7 hg7 hl7 => ?_)
  refine seqQ rfl rfl (yAssign (v := .slice _ _ _) rfl rfl) ?_
  refine seqQ rfl rfl (yAssign (v := .int _ _) rfl rfl) ?_
  refine seqNil ?_
  refine hF1 _ _ ?_; clear hF1
  refine wpSeq fun F2 hF2 => ?_
  refine wpSeq fun F3 hF3 => ?_
  refine wpRegion ?_
  refine seqQ rfl rfl (yMove (v := .slice _ _ _) rfl rfl) ?_
  refine seqQ rfl rfl (yMove (v := .int _ _) rfl rfl) ?_
  refine seqQ rfl rfl (yMove (v := .int _ _) rfl rfl) ?_
  -- e slot 15: call F17<farandole/log.Valid> t12 t13 t14
  refine seqE rfl rfl (stepCall rfl Try.call17 rfl ?_)
  refine (logValid_c l A ca role roles H7 (h.ext hx7) hs).mono ?_
  rintro v H1 ⟨rfl, x1⟩
  have hE := hx7.trans x1
  refine seqQ rfl rfl (yNot rfl rfl) ?_
  -- guard t17
  refine seqGB rfl rfl rfl rfl (fun hV => ?_) (fun hV => ?_)
  · skip
    have hV : ¬ ValidLog (l.map EH.ent) role roles := by simpa using hV
    refine seqU rfl rfl ?_
    refine seqU rfl rfl ?_
    refine seqU rfl rfl ?_
    refine seqU rfl rfl ?_
    refine seqU rfl rfl ?_
    refine seqQ rfl rfl (yPickT (v := .bool _) rfl rfl rfl) ?_
    refine seqQ rfl rfl (yMove (v := .bool true) rfl rfl) ?_
    refine seqU rfl rfl ?_
    refine seqU rfl rfl ?_
    refine seqU rfl rfl ?_
    refine seqQ rfl rfl (yPickT (v := .bool _) rfl rfl rfl) ?_
    refine seqNil ?_
    refine hF3 _ _ ?_; clear hF3
    -- if t28
    refine wpT rfl ?_
    refine wpSeq fun F4 hF4 => ?_
    refine wpRegion ?_
    refine seqQ rfl rfl (yAssign (v := .slice _ _ _) rfl rfl) ?_
    refine seqQ rfl rfl (yAssign (v := .int _ _) rfl rfl) ?_
    refine seqNil ?_
    refine hF4 _ _ ?_; clear hF4
    -- ret
    refine wpRet (fin2 (v := .slice _ _ _) (v' := .int _ _) rfl rfl rfl ?_)
    rw [sendL_bad (fun h => hV h.1)]
    exact ⟨none, 0, [], rfl, LogOwn.nil _ _ _, rfl, hE⟩
  · skip
    have hV : ValidLog (l.map EH.ent) role roles := by simpa using hV
    refine seqQ rfl rfl (yLoadB (hB7.ext x1) rfl Try.underlying26 rfl Try.sizeOf26 rfl) ?_
    refine seqQ rfl rfl (yMove (v := .int _ _) rfl rfl) ?_
    refine seqQ rfl rfl (yMove (v := .int _ _) rfl rfl) ?_
    -- e slot 21: call F35<farandole/log.stands> t18 t19 t20
    refine seqE rfl rfl (stepCall rfl Try.call35 rfl ?_)
    refine (stands_c e VA vc role roles H1).mono ?_
    rintro v H2 ⟨rfl, x2⟩
    replace hE := hE.trans x2
    have h7 := (hB7.ext x1).ext x2
    clear x1 x2 hB7
    refine seqQ rfl rfl (yNot rfl rfl) ?_
    refine seqQ rfl rfl (yPickF (v := .bool _) rfl rfl rfl) ?_
    -- guard t24
    refine seqGB rfl rfl rfl rfl (fun hS => ?_) (fun hS => ?_)
    · skip
      have hS : ¬ standsE e role roles := by simpa using hS
      refine seqU rfl rfl ?_
      refine seqU rfl rfl ?_
      refine seqU rfl rfl ?_
      refine seqQ rfl rfl (yPickT (v := .bool _) rfl rfl rfl) ?_
      refine seqNil ?_
      refine hF3 _ _ ?_; clear hF3
      -- if t28
      refine wpT rfl ?_
      refine wpSeq fun F5 hF5 => ?_
      refine wpRegion ?_
      refine seqQ rfl rfl (yAssign (v := .slice _ _ _) rfl rfl) ?_
      refine seqQ rfl rfl (yAssign (v := .int _ _) rfl rfl) ?_
      refine seqNil ?_
      refine hF5 _ _ ?_; clear hF5
      -- ret
      refine wpRet (fin2 (v := .slice _ _ _) (v' := .int _ _) rfl rfl rfl ?_)
      rw [sendL_bad (fun h => hS h.2.1)]
      exact ⟨none, 0, [], rfl, LogOwn.nil _ _ _, rfl, hE⟩
    · skip
      have hS : standsE e role roles := by simpa using hS
      refine seqQ rfl rfl (yFieldAddr rfl Try.underlying26 rfl Try.sizeOf4 rfl rfl) ?_
      refine seqQ rfl rfl (yLoad rfl Try.underlying4 rfl rfl (h7.cell rfl)) ?_
      refine seqQ rfl rfl (yNot rfl rfl) ?_
      refine seqQ rfl rfl (yPickF (v := .bool _) rfl rfl rfl) ?_
      refine seqNil ?_
      refine hF3 _ _ ?_; clear hF3
      -- if t28
      refine wpCond rfl (fun hD => ?_) (fun hD => ?_)
      · skip
        have hD : ¬ e.send = true := by simpa using hD
        refine wpSeq fun F6 hF6 => ?_
        refine wpRegion ?_
        refine seqQ rfl rfl (yAssign (v := .slice _ _ _) rfl rfl) ?_
        refine seqQ rfl rfl (yAssign (v := .int _ _) rfl rfl) ?_
        refine seqNil ?_
        refine hF6 _ _ ?_; clear hF6
        -- ret
        refine wpRet (fin2 (v := .slice _ _ _) (v' := .int _ _) rfl rfl rfl ?_)
        rw [sendL_bad (fun h => hD h.2.2)]
        exact ⟨none, 0, [], rfl, LogOwn.nil _ _ _, rfl, hE⟩
      · skip
        have hD : e.send = true := by simpa using hD
        have hA := And.intro hV (And.intro hS hD)
        obtain ⟨hr, hr2, hlm, -⟩ := hV
        rw [hml] at hlm
        refine wpSkip ?_
        refine hF2 _ _ ?_; clear hF2
        refine wpSeq fun F7 hF7 => ?_
        refine wpRegion ?_
        refine seqQ rfl rfl (yMove (v := .slice _ _ _) rfl rfl) ?_
        refine seqQ rfl rfl (yMove (v := .int _ _) rfl rfl) ?_
        -- e slot 32: call F37<farandole/log.last> t30 t31
        refine seqE rfl rfl (stepCall rfl Try.call37 rfl ?_)
        refine (last_c l A ca roles H2 (h.1.ext hE) hr hlm (fun x hx => ((h.2 x hx).ext hE).2)).mono ?_
        rintro v H3 ⟨L, lc, rfl, rL, x3⟩
        replace hE := hE.trans x3
        replace h7 := h7.ext x3
        clear x3
        refine seqQ rfl rfl (yMove (v := .int _ _) rfl rfl) ?_
        -- e slot 34: call F36<farandole/vclock.Tick> t32 t33
        refine seqE rfl rfl (stepCall rfl Try.call36 rfl ?_)
        refine (tick_c L lc _ role H3 rL (by have := lastC_sm hs hr.2; omega)).mono ?_
        rintro v H4 ⟨x4, s, rfl, oT⟩
        replace h7 := h7.ext x4
        have zE := hE.size
        replace hE := hE.trans x4
        obtain ⟨T, tc, rfl, -⟩ := oT.form
        clear x4 rL
        refine seqQ rfl rfl (yMove (v := .tuple _) rfl rfl) ?_
        refine seqQ rfl rfl (yExtract (v := .slice _ _ _) rfl rfl rfl) ?_
        refine seqQ rfl rfl (yExtract (v := .int _ _) rfl rfl rfl) ?_
        refine seqQ rfl rfl (yAssign (v := .slice _ _ _) rfl rfl) ?_
        refine seqQ rfl rfl (yAssign (v := .int _ _) rfl rfl) ?_
        refine seqNil ?_
        refine hF7 _ _ ?_; clear hF7
        refine wpSeq fun F8 hF8 => ?_
        refine wpSeq fun F9 hF9 => ?_
        refine wpRegion ?_
        refine seqQ rfl rfl (yMove (v := .slice _ _ _) rfl rfl) ?_
        refine seqQ rfl rfl (yLen rfl Try.underlying35 rfl) ?_
        refine seqQ rfl rfl (yGeq rfl rfl rfl) ?_
        -- guard t40
        refine seqG rfl rfl rfl rfl (fun hlen => ?_) (fun hlen => ?_)
        · skip
          refine seqU rfl rfl ?_
          refine seqU rfl rfl ?_
          refine seqQ rfl rfl (yPickT (v := .bool _) rfl rfl rfl) ?_
          refine seqNil ?_
          refine hF9 _ _ ?_; clear hF9
          -- if t43
          refine wpT rfl ?_
          refine wpSeq fun F10 hF10 => ?_
          refine wpRegion ?_
          refine seqQ rfl rfl (yAssign (v := .slice _ _ _) rfl rfl) ?_
          refine seqQ rfl rfl (yAssign (v := .int _ _) rfl rfl) ?_
          refine seqNil ?_
          refine hF10 _ _ ?_; clear hF10
          -- ret
          refine wpRet (fin2 (v := .slice _ _ _) (v' := .int _ _) rfl rfl rfl ?_)
          rw [sendL_lim hA (.inl (by rw [hml]; omega))]
          exact ⟨none, 0, [], rfl, LogOwn.nil _ _ _, rfl, hE⟩
        · skip
          refine seqQ rfl rfl (yMove (v := .int _ _) rfl rfl) ?_
          refine seqQ rfl rfl (yNeq rfl rfl rfl) ?_
          refine seqQ rfl rfl (yPickF (v := .bool _) rfl rfl rfl) ?_
          refine seqNil ?_
          refine hF9 _ _ ?_; clear hF9
          -- if t43
          refine wpCond rfl (fun hT => ?_) (fun hT => ?_)
          · skip
            have hT : ¬ (tickF (lastC (l.map EH.ent) roles) role).1 = 0 := by simpa using hT
            refine wpSeq fun F11 hF11 => ?_
            refine wpRegion ?_
            refine seqQ rfl rfl (yAssign (v := .slice _ _ _) rfl rfl) ?_
            refine seqQ rfl rfl (yAssign (v := .int _ _) rfl rfl) ?_
            refine seqNil ?_
            refine hF11 _ _ ?_; clear hF11
            -- ret
            refine wpRet (fin2 (v := .slice _ _ _) (v' := .int _ _) rfl rfl rfl ?_)
            rw [sendL_lim hA (.inr hT)]
            exact ⟨none, 0, [], rfl, LogOwn.nil _ _ _, rfl, hE⟩
          · skip
            have hT : (tickF (lastC (l.map EH.ent) roles) role).1 = 0 := by simpa using hT
            refine wpSkip ?_
            refine hF8 _ _ ?_; clear hF8
            refine wpSeq fun F12 hF12 => ?_
            refine wpRegion ?_
            refine seqQ rfl rfl (yMove (v := .slice _ _ _) rfl rfl) ?_
            refine seqQ rfl rfl (yLoadB h7 rfl Try.underlying26 rfl Try.sizeOf26 rfl) ?_
            refine seqQ rfl rfl (yMove (v := .slice _ _ _) rfl rfl) ?_
            -- e slot 47: call F38<farandole/log.added> t44 t45 t46
            refine seqE rfl rfl (stepCall rfl Try.call38 rfl ?_)
            refine (added_c l A ca e VA vc _ T tc H.size H4 (h.ext hE) hs (hv.ext hE) hvl hE.size (oT.mono zE)).mono ?_
            rintro v H5 ⟨l', lo, hm, x5⟩
            obtain ⟨B, cb, rfl, -⟩ := lo.own.form
            refine seqQ rfl rfl (yAssign (v := .slice _ _ _) rfl rfl) ?_
            refine seqQ rfl rfl (yAssign (v := .int _ _) rfl rfl) ?_
            refine seqNil ?_
            refine hF12 _ _ ?_; clear hF12
            -- ret
            refine wpRet (fin2 (v := .slice _ _ _) (v' := .int _ _) rfl rfl rfl ?_)
            rw [sendL_ok hA (by rw [hml]; rintro (h | h); omega; exact h hT)]
            exact ⟨B, cb, l', rfl, lo, hm, hE.trans x5⟩
end Go.Proofs.Ytbanngdijmglbaa
