/- The document's logs: the clock that an entry has to have; Right. -/
import Derived.Test.YtbanngdijmglbaaM19
namespace Go.Proofs.Ytbanngdijmglbaa
open Go.RowKit

set_option maxRecDepth 100000 in
theorem last_take {ls : List LH} {r i : Nat} (hr : r < ls.length) (hi : i < ls[r].l.length) : lastC ((ls[r].l.take i).map EH.ent) ls.length = beforeC (entsL ls) r i := by
  unfold beforeC
  by_cases h0 : i = 0
  · subst h0
    rw [if_pos rfl, List.take_zero, List.map_nil, lastC_nil, entsL_len, Int.toNat_natCast]
  · have hl : (ls[r].l.take i).length = i := by rw [List.length_take]; omega
    rw [if_neg h0, lastC_ent (by omega), clk_at hr (by omega)]
    congr 1
    rw [List.getElem_take]
    congr 1
    omega
set_option maxRecDepth 100000 in
theorem gotN_take (l : List Ent) {i j : Nat} (h : i ≤ j) (p : Int) : gotN l i p = gotN (l.take j) i p := by
  unfold gotN
  rw [List.take_take, Nat.min_eq_left h]
set_option maxRecDepth 100000 in
theorem rclock_c (ls : List LH) (B : Option Addr) (cb : Nat) (r i : Nat) (H : Heap) (h : LogsRd H B ls) (hs : LogsSm ls) (hV : ValidLogs (entsL ls)) (hcap : ∀ L ∈ ls, L.l.length ≤ L.c) (hr : r < ls.length) (hi : i < ls[r].l.length) :
    CallsH Try.prog 57 [.slice B ls.length cb, .agg (ePl.F (r, i)).toArray] H fun v H' => (∃ C cc, v = .tuple #[.slice C (needC (entsL ls) r i).2.length cc, .bool (decide ((needC (entsL ls) r i).1 = 0))] ∧ Rd eInt H' C (needC (entsL ls) r i).2) ∧ Ext H H' := by
  have he := entsL_len ls
  have hn6 : 1 ≤ ls.length ∧ ls.length ≤ 6 := by have := hV.1; omega
  have hlen : ∀ L ∈ ls, L.l.length ≤ 1000 := fun L hL => by
    obtain ⟨r, hr, rfl⟩ := List.getElem_of_mem hL
    have := (hV.2 r (by omega)).2.2.1
    rw [entsL_get hr, List.length_map] at this
    exact this
  have hg := entsL_get hr
  have hbl := before_len hV (r := r) (i := i) (by omega) (by rw [hg, List.length_map]; exact hi)
  have hlt := last_take hr hi
  have hVi := (hV.2 r (by omega)).2.2.2 i (by rw [hg, List.length_map]; exact hi)
  have hL := h.2 _ (List.getElem_mem hr)
  have hsL := hs.2 _ (List.getElem_mem hr)
  have hcL := hcap _ (List.getElem_mem hr)
  have hll := hlen _ (List.getElem_mem hr)
  have hgi := getD_ent ls[r].l hi
  have hevi : evAt (entsL ls) r i = ls[r].l[i].ev := by unfold evAt; rw [hg, hgi]; rfl
  have hgs := fun k (hk : k < ls[r].l.length) => gotN_succ (ls[r].l.map EH.ent) (i := k) (by rw [List.length_map]; exact hk)
  obtain ⟨p, ep, hp⟩ := h.1.at1 hr
  rw [hg] at hVi
  obtain ⟨q, eq, hq⟩ := hL.1.at hi
  obtain ⟨hst, -, hcl, -, -⟩ := hVi
  rw [hgi] at hst hcl
  have hgr : (entsL ls).getD r [] = ls[r].l.map EH.ent := hg
  generalize ls[r] = L at *
  generalize hx : L.l[i] = x at *
  replace hst : standsE x.ev r (entsL ls).length := hst
  refine callsH_of Try.func57 rfl Try.ntmps57 (Nat.le_of_ble_eq_true rfl) ?_
  refine wpSeq fun F1 hF1 => ?_
  refine wpRegion ?_
  refine seqN rfl rfl (nBoxA rfl rfl) (fun g3 H3 hx3 hB3 hg3 hl3 => ?_)
  refine seqQ rfl rfl (yAssign (v := .slice _ _ _) rfl rfl) ?_
  refine seqQ rfl rfl (yAssign (v := .bool _) rfl rfl) ?_
  refine seqNil ?_
  refine hF1 _ _ ?_; clear hF1
  refine wpSeq fun F2 hF2 => ?_
  refine wpRegion ?_
  refine seqQ rfl rfl (yMove (v := .slice _ _ _) rfl rfl) ?_
  refine seqQ rfl rfl (yFieldAddr rfl Try.underlying63 rfl Try.sizeOf3 rfl rfl) ?_
  refine seqQ rfl rfl (yLoad rfl Try.underlying3 rfl rfl (show cellH H3 ((⟨g3, 0, none⟩ : Addr).add 0) = some (.int .i64 r) from hB3.cell (j := 0) rfl)) ?_
  refine seqQ rfl rfl (yIdxP1 rfl Try.underlying33 Try.sizeOf23 rfl rfl ep rfl hr) ?_
  refine seqQ rfl rfl (yLoad rfl Try.underlying23 rfl rfl (hx3.cell (show cellH H _ = some (.slice L.A L.l.length L.c) from hp))) ?_
  refine seqQ rfl rfl (yAssign (v := .slice _ _ _) rfl rfl) ?_
  refine seqNil ?_
  refine hF2 _ _ ?_; clear hF2
  refine wpSeq fun F3 hF3 => ?_
  refine wpRegion ?_
  refine seqQ rfl rfl (yMove (v := .slice _ _ _) rfl rfl) ?_
  refine seqQ rfl rfl (yFieldAddr rfl Try.underlying63 rfl Try.sizeOf3 rfl rfl) ?_
  refine seqQ rfl rfl (yLoad rfl Try.underlying3 rfl rfl (show cellH H3 ((⟨g3, 0, none⟩ : Addr).add 1) = some (.int .i64 i) from hB3.cell (j := 1) rfl)) ?_
  refine seqQ rfl rfl (ySliceH rfl Try.underlying23 Try.sizeOf86 rfl rfl rfl (by omega)) ?_
  refine seqQ rfl rfl (yMove (v := .slice _ _ _) rfl rfl) ?_
  refine seqQ rfl rfl (yLen rfl Try.underlying33 rfl) ?_
  -- e slot 28: call F41<farandole/farandoleref57.last> t25 t27
  refine seqE rfl rfl (stepCall rfl Try.call41 rfl ?_)
  have htl : (L.l.take i).length = i := by rw [List.length_take]; omega
  have hc := rlast_c (L.l.take i) L.A L.c ls.length H3 ((hL.1.ext hx3).take i) (by omega) (by omega) (fun y hy => (hL.2 y (List.mem_of_mem_take hy)).2.ext hx3)
  rw [htl, hlt] at hc
  refine hc.mono ?_
  rintro v H4 ⟨NA, nc, rfl, rN, x4⟩
  have h3 := hB3.ext x4
  have hE := hx3.trans x4
  have z3 := hx3.size
  have z4 := x4.size
  have l3 := hB3.lt
  clear hB3 hx3 x4 hc
  refine seqQ rfl rfl (yAssign (v := .slice _ _ _) rfl rfl) ?_
  refine seqNil ?_
  refine hF3 _ _ ?_; clear hF3
  refine wpSeq fun F4 hF4 => ?_
  refine wpRegion ?_
  refine seqQ rfl rfl (yMove (v := .slice _ _ _) rfl rfl) ?_
  refine seqQ rfl rfl (yFieldAddr rfl Try.underlying63 rfl Try.sizeOf3 rfl rfl) ?_
  refine seqQ rfl rfl (yLoad rfl Try.underlying3 rfl rfl (show cellH H4 ((⟨g3, 0, none⟩ : Addr).add 1) = some (.int .i64 i) from h3.cell (j := 1) rfl)) ?_
  refine seqQ rfl rfl (yIdxP rfl Try.underlying23 Try.sizeOf86 rfl rfl eq rfl hi) ?_
  refine seqQ rfl rfl (yFieldAddr rfl Try.underlying86 rfl Try.sizeOf26 rfl rfl) ?_
  refine seqQ rfl rfl (yLoadC (cs := evC x.ev x.VA x.vc) rfl Try.underlying26 rfl Try.sizeOf26 rfl (fun j u hu => hE.cell (hq j u (ev_sub hu)))) ?_
  refine seqN rfl rfl (nAlloc rfl Try.zeroValue26 rfl) (fun g8 H8 hx8 hB8 hg8 hl8 => ?_)
  -- e slot None: store T26 t8 t34
  refine seqE0 rfl rfl (stepStoreB rfl (by kernel_rfl) rfl rfl rfl hB8 rfl ?_)
  intro H5 h8 hK5
  have z8 := hx8.size
  have z5 := hK5.size
  have hE5 : Ext H H5 := (hE.trans hx8).mine hK5 (by have := hE.size; simp; omega)
  have rN5 : Rd eInt H5 NA (beforeC (entsL ls) r i) := rN.ext (((Ext.refl H4).trans hx8).mine hK5 (by simp; omega))
  replace h3 := (h3.ext hx8).keep hK5 (by simp; omega)
  clear hK5 hx8 hB8 rN hE
  refine seqNil ?_
  refine hF4 _ _ ?_; clear hF4
  refine wpSeq fun F5 hF5 => ?_
  refine wpSeq fun F6 hF6 => ?_
  refine wpRegion ?_
  refine seqQ rfl rfl (yFieldAddr rfl Try.underlying26 rfl Try.sizeOf4 rfl rfl) ?_
  refine seqQ rfl rfl (yLoad rfl Try.underlying4 rfl rfl (show cellH H5 ((⟨g8, 0, none⟩ : Addr).add 1) = some (.bool x.ev.send) from h8.cell (j := 1) rfl)) ?_
  refine seqNil ?_
  refine hF6 _ _ ?_; clear hF6
  -- if t36
  refine wpCond rfl (fun hsd => ?_) (fun hsd => ?_)
  · skip
    have hsd : x.ev.send = true := hsd
    have hneed : needC (entsL ls) r i = tickF (beforeC (entsL ls) r i) r := by unfold needC; rw [if_pos (by rw [hevi]; exact hsd)]
    refine wpSeq fun F7 hF7 => ?_
    refine wpRegion ?_
    refine seqQ rfl rfl (yMove (v := .slice _ _ _) rfl rfl) ?_
    refine seqQ rfl rfl (yFieldAddr rfl Try.underlying63 rfl Try.sizeOf3 rfl rfl) ?_
    refine seqQ rfl rfl (yLoad rfl Try.underlying3 rfl rfl (show cellH H5 ((⟨g3, 0, none⟩ : Addr).add 0) = some (.int .i64 r) from h3.cell (j := 0) rfl)) ?_
    -- e slot 41: call F40<farandole/farandoleref07.Tick> t38 t40
    refine seqE rfl rfl (stepCall rfl Try.call40 rfl ?_)
    refine (r7Tick_c NA nc _ r H5 rN5 (by omega)).mono ?_
    rintro v H6 ⟨x6, s, rfl, oT⟩
    obtain ⟨T, tc, rfl, -⟩ := oT.form
    refine seqQ rfl rfl (yMove (v := .tuple _) rfl rfl) ?_
    refine seqQ rfl rfl (yExtract (v := .slice _ _ _) rfl rfl rfl) ?_
    refine seqQ rfl rfl (yExtract (v := .int _ _) rfl rfl rfl) ?_
    refine seqQ rfl rfl (yAssign (v := .slice _ _ _) rfl rfl) ?_
    refine seqQ rfl rfl (yAssign (v := .int _ _) rfl rfl) ?_
    refine seqNil ?_
    refine hF7 _ _ ?_; clear hF7
    refine wpSeq fun F8 hF8 => ?_
    refine wpRegion ?_
    refine seqQ rfl rfl (yMove (v := .slice _ _ _) rfl rfl) ?_
    refine seqQ rfl rfl (yMove (v := .int _ _) rfl rfl) ?_
    refine seqQ rfl rfl (yEql rfl rfl rfl) ?_
    refine seqQ rfl rfl (yAssign (v := .slice _ _ _) rfl rfl) ?_
    refine seqQ rfl rfl (yAssign (v := .bool _) rfl rfl) ?_
    refine seqNil ?_
    refine hF8 _ _ ?_; clear hF8
    -- ret
    refine wpRet (fin2 (v := .slice _ _ _) (v' := .bool _) rfl rfl rfl ?_)
    rw [hneed]
    exact ⟨⟨T, tc, rfl, (Own.rd oT).2⟩, hE5.trans x6⟩
  · skip
    have hsd : x.ev.send = false := hsd
    obtain ⟨-, hpne, hp0, hpn, -⟩ := hst
    obtain ⟨pn, hpn'⟩ := Int.eq_ofNat_of_zero_le hp0
    have hpl : pn < ls.length := by omega
    have hneed : needC (entsL ls) r i = receiveF (beforeC (entsL ls) r i) (sentC ((entsL ls).getD pn []) r (gotN (L.l.map EH.ent) i pn)) r := by
      unfold needC
      rw [if_neg (by rw [hevi, hsd]; simp), hevi, hpn', Int.toNat_natCast, hgr]
    refine wpSkip ?_
    refine hF5 _ _ ?_; clear hF5
    refine wpSeq fun F9 hF9 => ?_
    refine wpRegion ?_
    refine seqQ rfl rfl (yAssign (v := .int _ _) rfl rfl) ?_
    refine seqNil ?_
    refine hF9 _ _ ?_; clear hF9
    refine wpSeq fun F10 hF10 => ?_
    refine wpSeq fun F11 hF11 => ?_
    refine wpRegion ?_
    refine seqQ rfl rfl (yAssign (v := .int _ _) rfl rfl) ?_
    refine seqNil ?_
    refine hF11 _ _ ?_; clear hF11
    -- loop
    refine wpBlock ?_
    refine wpLoopS [11, 12, 47, 48, 49, 50, 51, 52, 53, 54, 55, 56, 57, 58, 59, 60, 61, 62, 63, 64, 65, 66, 67, 68, 69, 70, 71, 72] (fun k : Nat => [(12, .int .i64 k), (11, .int .i64 (gotN (L.l.map EH.ent) k pn : Nat))]) (fun k H' => k ≤ i ∧ H' = H5) (fun k => i - k) 0 ⟨rfl, rfl, trivial⟩ ⟨Nat.zero_le _, rfl⟩ ?_
    rintro k J Hk ⟨hk, e⟩
    obtain rfl := e.symm
    clear e
    refine wpSeq fun F12 hF12 => ?_
    refine wpSeq fun F13 hF13 => ?_
    refine wpRegion ?_
    refine seqQ rfl rfl (yMove (v := .int _ _) rfl rfl) ?_
    refine seqQ rfl rfl (yFieldAddr rfl Try.underlying63 rfl Try.sizeOf3 rfl rfl) ?_
    refine seqQ rfl rfl (yLoad rfl Try.underlying3 rfl rfl (show cellH H5 ((⟨g3, 0, none⟩ : Addr).add 1) = some (.int .i64 i) from h3.cell (j := 1) rfl)) ?_
    refine seqQ rfl rfl (yLss rfl rfl rfl) ?_
    refine seqNil ?_
    refine hF13 _ _ ?_; clear hF13
    -- if t50
    refine wpIf rfl (fun hki => ?_) (fun hki => ?_)
    · skip
      have hkl : k < L.l.length := by omega
      have hgk := hgs k hkl
      have hgle := gotN_le (L.l.map EH.ent) k pn
      rw [getD_ent L.l hkl] at hgk
      obtain ⟨qk, eqk, hqk⟩ := (hL.1.ext hE5).at hkl
      generalize L.l[k] = y at *
      replace hgk : ∀ p : Int, gotN (L.l.map EH.ent) (k + 1) p = gotN (L.l.map EH.ent) k p + if y.ev.send = false ∧ y.ev.peer = p then 1 else 0 := hgk
      refine wpSkip ?_
      refine hF12 _ _ ?_; clear hF12
      refine wpSeq fun F14 hF14 => ?_
      refine wpBlock ?_
      refine wpSeq fun F15 hF15 => ?_
      refine wpRegionD Try_mixed [.q, .q, .q, .q, .q, .q, .q, .q, .q, .q, .q, .q, .q, .q, .q, .q, .q, .q] 16 [0, 0, 3, 7, 15, 31, 63, 127, 255, 255, 1023, 2047, 4095, 8191, 255, 16639, 65535, 131071] [] (by kernel_rfl) _ rfl [0, 1, 2, 3, 4, 5, 6, 7, 8, 9, 10, 11, 12, 13, 14, 15] rfl (by simp) ?_
      refine lexQ rfl rfl rfl rfl (fun H hM => (yMove (v := .slice _ _ _) rfl rfl)) ?_
      refine lexQ rfl rfl rfl rfl (fun H hM => (yMove (v := .int _ _) rfl rfl)) ?_
      refine lexQ rfl rfl rfl rfl (fun H hM => (yIdxP rfl Try.underlying23 Try.sizeOf86 rfl rfl eqk rfl hkl)) ?_
      refine lexQ rfl rfl rfl rfl (fun H hM => (yFieldAddr rfl Try.underlying86 rfl Try.sizeOf26 rfl rfl)) ?_
      refine lexQ rfl rfl rfl rfl (fun H hM => (yFieldAddr rfl Try.underlying26 rfl Try.sizeOf4 rfl rfl)) ?_
      refine lexQ rfl rfl rfl rfl (fun H hM => (yLoad rfl Try.underlying4 rfl rfl (hM.ext.cell (show cellH H5 _ = some (.bool y.ev.send) from hqk 1 _ rfl)))) ?_
      refine lexQ rfl rfl rfl rfl (fun H hM => (yNot rfl rfl)) ?_
      -- guard t60
      cases hys : y.ev.send
      · skip
        rw [show (!false) = true from rfl]
        refine lexQ rfl rfl rfl rfl (fun H hM => (yMove (v := .bool true) rfl rfl)) ?_
        refine lexQ rfl rfl rfl rfl (fun H hM => (yMove (v := .slice _ _ _) rfl rfl)) ?_
        refine lexQ rfl rfl rfl rfl (fun H hM => (yMove (v := .int _ _) rfl rfl)) ?_
        refine lexQ rfl rfl rfl rfl (fun H hM => (yIdxP rfl Try.underlying23 Try.sizeOf86 rfl rfl eqk rfl hkl)) ?_
        refine lexQ rfl rfl rfl rfl (fun H hM => (yFieldAddr rfl Try.underlying86 rfl Try.sizeOf26 rfl rfl)) ?_
        refine lexQ rfl rfl rfl rfl (fun H hM => (yFieldAddr rfl Try.underlying26 rfl Try.sizeOf3 rfl rfl)) ?_
        refine lexQ rfl rfl rfl rfl (fun H hM => (yLoad rfl Try.underlying3 rfl rfl (hM.ext.cell (show cellH H5 _ = some (.int .i64 y.ev.peer) from hqk 2 _ rfl)))) ?_
        refine lexQ rfl rfl rfl rfl (fun H hM => (yFieldAddr rfl Try.underlying26 rfl Try.sizeOf3 rfl rfl)) ?_
        refine lexQ rfl rfl rfl rfl (fun H hM => (yLoad rfl Try.underlying3 rfl rfl (hM.ext.cell (show cellH H5 ((⟨g8, 0, none⟩ : Addr).add 2) = some (.int .i64 x.ev.peer) from h8.cell (j := 2) rfl)))) ?_
        -- tail
        refine lexNil0 rfl (fun hM => ?_)
        refine seqQ rfl rfl (yEql rfl rfl rfl) ?_
        refine seqQ rfl rfl (yPickT (v := .bool _) rfl rfl rfl) ?_
        refine seqNil ?_
        refine hF15 _ _ ?_; clear hF15
        -- if t70
        refine wpCond rfl (fun hyp => ?_) (fun hyp => ?_)
        · skip
          have hyp : y.ev.peer = (pn : Int) := by rw [← hpn']; simpa using hyp
          refine wpRegion ?_
          refine seqQ rfl rfl (yMove (v := .int _ _) rfl rfl) ?_
          refine seqQ rfl rfl (yAdd rfl rfl rfl (by unfold In64; omega)) ?_
          refine seqQ rfl rfl (yAssign (v := .int _ _) rfl rfl) ?_
          refine seqNil ?_
          refine hF14 _ _ ?_; clear hF14
          refine wpRegion ?_
          refine seqQ rfl rfl (yMove (v := .int _ _) rfl rfl) ?_
          refine seqQ rfl rfl (yAdd rfl rfl rfl (by unfold In64; omega)) ?_
          refine seqQ rfl rfl (yAssign (v := .int _ _) rfl rfl) ?_
          refine seqNil ?_
          -- end loop
          exact loopEnd (k + 1) (by repeat (first | (with_reducible exact Agree.refl _ _) | refine Agree.upd ?_ rfl | refine Agree.over ?_ rfl)) (by omega) ⟨rfl, by rw [hgk, if_pos ⟨hys, hyp⟩]; rfl, trivial⟩ ⟨by omega, rfl⟩
        · skip
          have hyp : ¬ y.ev.peer = (pn : Int) := by rw [← hpn']; simpa using hyp
          refine wpSkip ?_
          refine hF14 _ _ ?_; clear hF14
          refine wpRegion ?_
          refine seqQ rfl rfl (yMove (v := .int _ _) rfl rfl) ?_
          refine seqQ rfl rfl (yAdd rfl rfl rfl (by unfold In64; omega)) ?_
          refine seqQ rfl rfl (yAssign (v := .int _ _) rfl rfl) ?_
          refine seqNil ?_
          -- end loop
          exact loopEnd (k + 1) (by repeat (first | (with_reducible exact Agree.refl _ _) | refine Agree.upd ?_ rfl | refine Agree.over ?_ rfl)) (by omega) ⟨rfl, by rw [hgk, if_neg (fun h => hyp h.2)]; rfl, trivial⟩ ⟨by omega, rfl⟩
      · skip
        rw [show (!true) = false from rfl]
        refine lexQ rfl rfl rfl rfl (fun H hM => (yMove (v := .bool false) rfl rfl)) ?_
        refine lexU rfl rfl rfl ?_
        refine lexU rfl rfl rfl ?_
        refine lexU rfl rfl rfl ?_
        refine lexU rfl rfl rfl ?_
        refine lexU rfl rfl rfl ?_
        refine lexU rfl rfl rfl ?_
        refine lexU rfl rfl rfl ?_
        refine lexU rfl rfl rfl ?_
        -- tail
        refine lexNil0 rfl (fun hM => ?_)
        refine seqU rfl rfl ?_
        refine seqQ rfl rfl (yPickF (v := .bool _) rfl rfl rfl) ?_
        refine seqNil ?_
        refine hF15 _ _ ?_; clear hF15
        -- if t70
        refine wpF rfl ?_
        refine wpSkip ?_
        refine hF14 _ _ ?_; clear hF14
        refine wpRegion ?_
        refine seqQ rfl rfl (yMove (v := .int _ _) rfl rfl) ?_
        refine seqQ rfl rfl (yAdd rfl rfl rfl (by unfold In64; omega)) ?_
        refine seqQ rfl rfl (yAssign (v := .int _ _) rfl rfl) ?_
        refine seqNil ?_
        -- end loop
        exact loopEnd (k + 1) (by repeat (first | (with_reducible exact Agree.refl _ _) | refine Agree.upd ?_ rfl | refine Agree.over ?_ rfl)) (by omega) ⟨rfl, by rw [hgk, if_neg (fun h => by rw [hys] at h; cases h.1)]; rfl, trivial⟩ ⟨by omega, rfl⟩
    · skip
      obtain rfl : k = i := by omega
      obtain ⟨pp, epp, hpp⟩ := (h.1.ext hE5).at1 hpl
      have hLp := (h.2 _ (List.getElem_mem hpl)).ext hE5
      have hgp := entsL_get hpl
      have hlp := hlen _ (List.getElem_mem hpl)
      have hsp := (hs.2 _ (List.getElem_mem hpl)).2
      generalize ls[pn] = Lp at *
      have hgle := gotN_le (L.l.map EH.ent) k pn
      refine wpExit ?_
      refine hF10 _ _ ?_; clear hF10
      refine wpSeq fun F16 hF16 => ?_
      refine wpRegionD Try_mixed [.q, .q, .q, .q, .q, .q, .q, .q, .e, .q, .q, .q, .q, .q] 13 [0, 0, 2, 7, 15, 0, 32, 0, 255, 511, 1023, 1023, 2047, 8191] [] (by kernel_rfl) _ rfl [0, 1, 2, 3, 4, 5, 6, 7, 8, 9, 10, 11, 12] rfl (by simp) ?_
      refine lexQ rfl rfl rfl rfl (fun H hM => (yMove (v := .slice _ _ _) rfl rfl)) ?_
      refine lexQ rfl rfl rfl rfl (fun H hM => (yFieldAddr rfl Try.underlying26 rfl Try.sizeOf3 rfl rfl)) ?_
      refine lexQ rfl rfl rfl rfl (fun H hM => (yLoad rfl Try.underlying3 rfl rfl (hM.ext.cell (show cellH H5 ((⟨g8, 0, none⟩ : Addr).add 2) = some (.int .i64 pn) from by rw [← hpn']; exact h8.cell (j := 2) rfl)))) ?_
      refine lexQ rfl rfl rfl rfl (fun H hM => (yIdxP1 rfl Try.underlying33 Try.sizeOf23 rfl rfl epp rfl hpl)) ?_
      refine lexQ rfl rfl rfl rfl (fun H hM => (yLoad rfl Try.underlying23 rfl rfl (hM.ext.cell (show cellH H5 _ = some (.slice Lp.A Lp.l.length Lp.c) from hpp)))) ?_
      refine lexQ rfl rfl rfl rfl (fun H hM => (yFieldAddr rfl Try.underlying63 rfl Try.sizeOf3 rfl rfl)) ?_
      refine lexQ rfl rfl rfl rfl (fun H hM => (yLoad rfl Try.underlying3 rfl rfl (hM.ext.cell (show cellH H5 ((⟨g3, 0, none⟩ : Addr).add 0) = some (.int .i64 r) from h3.cell (j := 0) rfl)))) ?_
      refine lexQ rfl rfl rfl rfl (fun H hM => (yMove (v := .int _ _) rfl rfl)) ?_
      -- e slot 82: call F83<farandole/farandoleref57.message> t78 t80 t81
      refine lexX0 rfl rfl rfl rfl rfl (by simp) (fun hM82 => stepCall rfl Try.call83 rfl ?_)
      refine (message_c Lp.l Lp.A Lp.c r (gotN (L.l.map EH.ent) k pn) H5 hLp (by omega) (by omega)).mono ?_
      rintro v H6 ⟨⟨C, cc, b, rfl, hbf, rC⟩, e⟩
      obtain rfl := e.symm
      clear e
      refine ⟨Ext.refl _, fun _ => ?_⟩
      rw [← hgp] at rC hbf ⊢
      have hsl := sentC_len (l := (entsL ls).getD pn []) (peer := r) (n := gotN (L.l.map EH.ent) k pn) (m := 100000) (by rw [hgp]; intro y hy; obtain ⟨z, hz, rfl⟩ := List.mem_map.1 hy; exact (hsp z hz).2)
      refine lexQ rfl rfl rfl rfl (fun H hM => (yMove (v := .tuple _) rfl rfl)) ?_
      refine lexQ rfl rfl rfl rfl (fun H hM => (yExtract (v := .slice _ _ _) rfl rfl rfl)) ?_
      refine lexQ rfl rfl rfl rfl (fun H hM => (yExtract (v := .bool _) rfl rfl rfl)) ?_
      refine lexQ rfl rfl rfl rfl (fun H hM => (yAssign (v := .slice _ _ _) rfl rfl)) ?_
      -- tail
      refine lexNil0 rfl (fun hM => ?_)
      refine seqQ rfl rfl (yAssign (v := .bool _) rfl rfl) ?_
      refine seqNil ?_
      refine hF16 _ _ ?_; clear hF16
      refine wpSeq fun F17 hF17 => ?_
      refine wpSeq fun F18 hF18 => ?_
      refine wpRegion ?_
      refine seqQ rfl rfl (yMove (v := .bool _) rfl rfl) ?_
      refine seqQ rfl rfl (yNot rfl rfl) ?_
      refine seqNil ?_
      refine hF18 _ _ ?_; clear hF18
      -- if t86
      cases b
      · skip
        have e0 : needC (entsL ls) r k = (1, []) := by
          rw [hneed, hbf rfl]
          have hj : ¬ (joinF (beforeC (entsL ls) r k) []).1 = 0 := by
            rw [joinF_bad (fun hc => by have := hc.2.1; simp [okC] at this)]
            decide
          rw [recvF_err hj, joinF_bad (fun hc => by have := hc.2.1; simp [okC] at this)]
        refine wpT rfl ?_
        refine wpSeq fun F19 hF19 => ?_
        refine wpRegion ?_
        refine seqQ rfl rfl (yAssign (v := .slice _ _ _) rfl rfl) ?_
        refine seqQ rfl rfl (yAssign (v := .bool _) rfl rfl) ?_
        refine seqNil ?_
        refine hF19 _ _ ?_; clear hF19
        -- ret
        refine wpRet (fin2 (v := .slice _ _ _) (v' := .bool _) rfl rfl rfl ?_)
        rw [e0]
        exact ⟨⟨none, 0, rfl, Rd.nil _ _⟩, hE5⟩
      · skip
        refine wpF rfl ?_
        refine wpSkip ?_
        refine hF17 _ _ ?_; clear hF17
        refine wpSeq fun F20 hF20 => ?_
        refine wpRegion ?_
        refine seqQ rfl rfl (yMove (v := .slice _ _ _) rfl rfl) ?_
        refine seqQ rfl rfl (yMove (v := .slice _ _ _) rfl rfl) ?_
        refine seqQ rfl rfl (yFieldAddr rfl Try.underlying63 rfl Try.sizeOf3 rfl rfl) ?_
        refine seqQ rfl rfl (yLoad rfl Try.underlying3 rfl rfl (show cellH H5 ((⟨g3, 0, none⟩ : Addr).add 0) = some (.int .i64 r) from h3.cell (j := 0) rfl)) ?_
        -- e slot 92: call F84<farandole/farandoleref07.Receive> t88 t89 t91
        refine seqE rfl rfl (stepCall rfl Try.call84 rfl ?_)
        refine (r7Receive_c NA C nc cc _ _ r H5 rN5 rC (by omega) (by omega)).mono ?_
        rintro v H7 ⟨x7, s, rfl, oT⟩
        obtain ⟨T, tc, rfl, -⟩ := oT.form
        refine seqQ rfl rfl (yMove (v := .tuple _) rfl rfl) ?_
        refine seqQ rfl rfl (yExtract (v := .slice _ _ _) rfl rfl rfl) ?_
        refine seqQ rfl rfl (yExtract (v := .int _ _) rfl rfl rfl) ?_
        refine seqQ rfl rfl (yAssign (v := .slice _ _ _) rfl rfl) ?_
        refine seqQ rfl rfl (yAssign (v := .int _ _) rfl rfl) ?_
        refine seqNil ?_
        refine hF20 _ _ ?_; clear hF20
        refine wpSeq fun F21 hF21 => ?_
        refine wpRegion ?_
        refine seqQ rfl rfl (yMove (v := .slice _ _ _) rfl rfl) ?_
        refine seqQ rfl rfl (yMove (v := .int _ _) rfl rfl) ?_
        refine seqQ rfl rfl (yEql rfl rfl rfl) ?_
        refine seqQ rfl rfl (yAssign (v := .slice _ _ _) rfl rfl) ?_
        refine seqQ rfl rfl (yAssign (v := .bool _) rfl rfl) ?_
        refine seqNil ?_
        refine hF21 _ _ ?_; clear hF21
        -- ret
        refine wpRet (fin2 (v := .slice _ _ _) (v' := .bool _) rfl rfl rfl ?_)
        rw [hneed]
        exact ⟨⟨T, tc, rfl, (Own.rd oT).2⟩, hE5.trans x7⟩
end Go.Proofs.Ytbanngdijmglbaa
