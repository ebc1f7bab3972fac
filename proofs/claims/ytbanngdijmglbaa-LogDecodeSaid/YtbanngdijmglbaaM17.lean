/- LogAppend: Valid, Send, Receive and Events return the specified results for any log of up to 60 entries, and any event, roles and clock. Conditions: none beyond the statement's. -/
import Derived.Test.YtbanngdijmglbaaM16
import Derived.Test.YtbanngdijmglbaaLH
namespace Go.Proofs.Ytbanngdijmglbaa
open Go.ChangeShapes Go.WideShapes Go.ChangeAt Go.RowKit Go.Deep

set_option maxRecDepth 100000 in
theorem opn_wv (W : World) : Opn Try.prog W 88 3 eWV.F (fun v => In64 v.kind ∧ In64 v.n) :=
  (opn_struct Try.underlying88 (by kernel_rfl) (opnF_cons rfl (opn_int Try.underlying3 (by kernel_rfl)) (opnF_cons rfl (opn_int Try.underlying3 (by kernel_rfl)) (opnF_cons rfl (opn_str Try.underlying9 (by kernel_rfl)) (opnF_nil rfl))))).map (fun a : Int × Int × ByteArray × Unit => (⟨a.1, a.2.1, a.2.2.1⟩ : Val)) (fun _ => rfl) (fun _ h => ⟨h.1, h.2.1⟩)
set_option maxRecDepth 100000 in
theorem opn_wvs (W : World) : Opn Try.prog W 24 1 (fun a : Option Addr × Nat × List Val => [.slice a.1 a.2.2.length a.2.1]) (fun a => Rd eWV W.heap a.1 a.2.2 ∧ (∀ x ∈ a.2.2, In64 x.kind ∧ In64 x.n) ∧ a.2.2.length ≤ a.2.1 ∧ a.2.1 ≤ maxLen) := opn_slice (c := eWV) Try.underlying24 (by kernel_rfl) (opn_wv W)
set_option maxRecDepth 100000 in
theorem opn_clk (W : World) : Opn Try.prog W 28 1 (fun a : Option Addr × Nat × List Int => [.slice a.1 a.2.2.length a.2.1]) (fun a => Rd eInt W.heap a.1 a.2.2 ∧ (∀ x ∈ a.2.2, In64 x) ∧ a.2.2.length ≤ a.2.1 ∧ a.2.1 ≤ maxLen) := opn_slice (c := eInt) Try.underlying28 (by kernel_rfl) (opn_int Try.underlying3 (by kernel_rfl))
set_option maxRecDepth 100000 in
theorem maxLen_eq {n m : Nat} (h : n ≤ m) (h2 : m ≤ maxLen) : n ≤ 9223372036854775807 := by have := Nat.le_trans h h2; unfold maxLen at this; exact this
def EvOk (W : World) (x : Evt × Option Addr × Nat) : Prop := Rd eWV W.heap x.2.1 x.1.values ∧ x.1.values.length ≤ 9223372036854775807
set_option maxRecDepth 100000 in
theorem opn_evt (W : World) : Opn Try.prog W 26 5 (fun x : Evt × Option Addr × Nat => evC x.1 x.2.1 x.2.2) (EvOk W) :=
  (opn_struct Try.underlying26 (by kernel_rfl) (opnF_cons rfl (opn_int Try.underlying3 (by kernel_rfl)) (opnF_cons rfl (opn_bool Try.underlying4 (by kernel_rfl)) (opnF_cons rfl (opn_int Try.underlying3 (by kernel_rfl)) (opnF_cons rfl (opn_int Try.underlying3 (by kernel_rfl)) (opnF_cons rfl (opn_wvs W) (opnF_nil rfl))))))).map
    (fun a : Int × Bool × Int × Int × (Option Addr × Nat × List Val) × Unit => ((⟨a.1, a.2.1, a.2.2.1, a.2.2.2.1, a.2.2.2.2.1.2.2⟩ : Evt), a.2.2.2.2.1.1, a.2.2.2.2.1.2.1)) (fun _ => rfl)
    (fun a ha => ⟨ha.2.2.2.2.1.1, maxLen_eq ha.2.2.2.2.1.2.2.1 ha.2.2.2.2.1.2.2.2⟩)
set_option maxRecDepth 100000 in
theorem opn_ent (W : World) : Opn Try.prog W 86 6 eEH.F (fun x : EH => EhRd W.heap x ∧ x.ev.values.length ≤ 9223372036854775807) :=
  (opn_struct Try.underlying86 (by kernel_rfl) (opnF_cons rfl (opn_evt W) (opnF_cons rfl (opn_clk W) (opnF_nil rfl)))).map
    (fun a : (Evt × Option Addr × Nat) × (Option Addr × Nat × List Int) × Unit => (⟨a.1.1, a.1.2.1, a.1.2.2, a.2.1.2.2, a.2.1.1, a.2.1.2.1⟩ : EH)) (fun _ => rfl) (fun a h => ⟨⟨h.1.1, h.2.1.1⟩, h.1.2⟩)
set_option maxRecDepth 100000 in
theorem opn_log (W : World) : Opn Try.prog W 23 1 (fun a : Option Addr × Nat × List EH => [.slice a.1 a.2.2.length a.2.1]) (fun a => Rd eEH W.heap a.1 a.2.2 ∧ (∀ x ∈ a.2.2, EhRd W.heap x ∧ x.ev.values.length ≤ 9223372036854775807) ∧ a.2.2.length ≤ a.2.1 ∧ a.2.1 ≤ maxLen) :=
  opn_slice (c := eEH) Try.underlying23 (by kernel_rfl) (opn_ent W)
/-- An event, a role, the number of roles, a clock. -/
structure CaseH where
  ev : Evt
  VA : Option Addr
  vc : Nat
  role : Int
  roles : Int
  clk : List Int
  CA : Option Addr
  cc : Nat
def caseC (x : CaseH) : List Value := [.int .i64 x.ev.role, .bool x.ev.send, .int .i64 x.ev.peer, .int .i64 x.ev.label, .slice x.VA x.ev.values.length x.vc, .int .i64 x.role, .int .i64 x.roles, .slice x.CA x.clk.length x.cc]
set_option maxRecDepth 100000 in
theorem opn_case (W : World) : Opn Try.prog W 30 8 caseC (fun x : CaseH => (Rd eWV W.heap x.VA x.ev.values ∧ Rd eInt W.heap x.CA x.clk) ∧ x.ev.values.length ≤ 9223372036854775807 ∧ x.clk.length ≤ 9223372036854775807) :=
  (opn_struct Try.underlying30 (by kernel_rfl) (opnF_cons rfl (opn_evt W) (opnF_cons rfl (opn_int Try.underlying3 (by kernel_rfl)) (opnF_cons rfl (opn_int Try.underlying3 (by kernel_rfl)) (opnF_cons rfl (opn_clk W) (opnF_nil rfl)))))).map
    (fun a : (Evt × Option Addr × Nat) × Int × Int × (Option Addr × Nat × List Int) × Unit => (⟨a.1.1, a.1.2.1, a.1.2.2, a.2.1, a.2.2.1, a.2.2.2.1.2.2, a.2.2.2.1.1, a.2.2.2.1.2.1⟩ : CaseH)) (fun _ => rfl) (fun a h => ⟨⟨h.1.1, h.2.2.2.1.1⟩, h.1.2, maxLen_eq h.2.2.2.1.2.2.1 h.2.2.2.1.2.2.2⟩)
set_option maxRecDepth 100000 in
theorem case_ev {x : CaseH} {j : Nat} {u : Value} (hu : (evC x.ev x.VA x.vc)[j]? = some u) : (caseC x)[j]? = some u := by
  have hj : j < 5 := (List.getElem?_eq_some_iff.1 hu).1
  match j, hj with
  | 0, _ => exact hu
  | 1, _ => exact hu
  | 2, _ => exact hu
  | 3, _ => exact hu
  | 4, _ => exact hu
set_option maxRecDepth 100000 in
theorem lens_mem : ∀ {ls : List LH} {L : LH}, L ∈ ls → L.l.length ≤ lens ls
  | K :: ls, L, h => by
    have e : lens (K :: ls) = K.l.length + lens ls := by unfold lens; rw [List.map_cons, List.sum_cons]
    rw [e]
    rcases List.mem_cons.1 h with rfl | h
    · omega
    · have := lens_mem h
      omega
set_option maxRecDepth 100000 in
theorem few_sm {L : LH} {ls : List LH} (h : FewL ls) (hL : L ∈ ls) : LogSm L.l := by
  obtain ⟨h1, h2, h3⟩ := h
  have : L.l.length ≤ lens ls := lens_mem hL
  refine ⟨by omega, fun x hx => ?_⟩
  obtain ⟨h4, h5, -⟩ := h1 L hL x hx
  omega
def SmE (e : Ent) : Prop := e.ev.values.length ≤ 100000 ∧ e.clk.length ≤ 100000
set_option maxRecDepth 100000 in
theorem sm_of {l : List EH} (h : l.length ≤ 100000) (h2 : ∀ e ∈ l.map EH.ent, SmE e) : LogSm l := ⟨h, fun x hx => h2 _ (List.mem_map_of_mem hx)⟩
set_option maxRecDepth 100000 in
theorem LogSm.ents {l : List EH} (h : LogSm l) : ∀ e ∈ l.map EH.ent, SmE e := fun e he => by
  obtain ⟨x, hx, rfl⟩ := List.mem_map.1 he
  exact h.2 x hx
set_option maxRecDepth 100000 in
theorem tickF_len (c : List Int) (r : Int) : (tickF c r).2.length ≤ c.length := by
  unfold tickF
  split
  · simp
  · split
    · simp
    · split
      · simp
      · rw [List.length_set]; omega
set_option maxRecDepth 100000 in
theorem sendL_sm {l : List Ent} {role roles : Int} {e : Evt} (hl : l.length ≤ 60) (h : ∀ x ∈ l, SmE x) (he : e.values.length ≤ 100000) (hc : roles ≤ 6 → (lastC l roles).length ≤ 100000) : (sendL l role roles e).2.length ≤ 100000 ∧ ∀ x ∈ (sendL l role roles e).2, SmE x := by
  by_cases hA : ValidLog l role roles ∧ standsE e role roles ∧ e.send = true
  · by_cases h2 : 1000 ≤ l.length ∨ (tickF (lastC l roles) role).1 ≠ 0
    · rw [sendL_lim hA h2]
      exact ⟨by simp, fun _ h => by cases h⟩
    · rw [sendL_ok hA h2]
      refine ⟨by rw [List.length_append, List.length_singleton]; omega, fun x hx => ?_⟩
      rcases List.mem_append.1 hx with hx | hx
      · exact h x hx
      · rw [List.mem_singleton.1 hx]
        have h3 := tickF_len (lastC l roles) role
        have h4 := hc hA.1.1.2
        exact ⟨he, by show (tickF _ _).2.length ≤ _; omega⟩
  · rw [sendL_bad hA]
    exact ⟨by simp, fun _ h => by cases h⟩
set_option maxRecDepth 100000 in
theorem recvF_len (c m : List Int) (r : Int) : (receiveF c m r).2.length ≤ 6 := by
  by_cases h : (joinF c m).1 = 0
  · rw [recvF_tick h]
    have := tickF_len (joinF c m).2 r
    have := joinF_len c m
    omega
  · rw [recvF_err h]
    simp
set_option maxRecDepth 100000 in
theorem recvL_sm {l : List Ent} {role roles : Int} {e : Evt} {m : List Int} (hl : l.length ≤ 60) (h : ∀ x ∈ l, SmE x) (he : e.values.length ≤ 100000) : (recvL l role roles e m).2.length ≤ 100000 ∧ ∀ x ∈ (recvL l role roles e m).2, SmE x := by
  by_cases hA : ValidLog l role roles ∧ standsE e role roles ∧ e.send = false
  · by_cases h2 : (receiveF (lastC l roles) m role).1 = 0
    · by_cases h3 : 1000 ≤ l.length
      · rw [recvL_lim hA h2 h3]
        exact ⟨by simp, fun _ h => by cases h⟩
      · rw [recvL_ok hA h2 h3]
        refine ⟨by rw [List.length_append, List.length_singleton]; omega, fun x hx => ?_⟩
        rcases List.mem_append.1 hx with hx | hx
        · exact h x hx
        · rw [List.mem_singleton.1 hx]
          have h3 := recvF_len (lastC l roles) m role
          exact ⟨he, by show (receiveF _ _ _).2.length ≤ _; omega⟩
    · rw [recvL_err hA h2]
      exact ⟨by simp, fun _ h => by cases h⟩
  · rw [recvL_bad hA]
    exact ⟨by simp, fun _ h => by cases h⟩
set_option maxRecDepth 100000 in
theorem append_walk (l : List EH) (A : Option Addr) (ca : Nat) (x : CaseH) (H : Heap) (h : LogRd H A l) (hl : l.length ≤ 9223372036854775807) (hvl : ∀ y ∈ l, y.ev.values.length ≤ 9223372036854775807) (hx : Rd eWV H x.VA x.ev.values ∧ Rd eInt H x.CA x.clk) :
    CallsH Try.prog 3 [.slice A l.length ca, .agg (caseC x).toArray] H fun v H' => v = .bool true ∧ Ext H H' := by
  refine callsH_of Try.func3 rfl Try.ntmps3 (Nat.le_of_ble_eq_true rfl) ?_
  refine wpSeq fun F1 hF1 => ?_
  refine wpRegion ?_
  refine seqN rfl rfl (nBoxA rfl rfl) (fun g3 H3 hx3 hB3 hg3 hl3 => ?_)
  refine seqQ rfl rfl (yAssign (v := .bool _) rfl rfl) ?_
  refine seqNil ?_
  refine hF1 _ _ ?_; clear hF1
  refine wpSeq fun F2 hF2 => ?_
  refine wpSeq fun F3 hF3 => ?_
  refine wpRegion ?_
  -- e slot 14: call F10<farandole/farandolelaw57.awake> 
  refine seqE rfl rfl (stepCall rfl Try.call10 rfl ?_)
  refine (logAwake_c _).mono ?_
  rintro v Ha ⟨rfl, xa⟩
  have hE := hx3.trans xa
  have h3 : Blk Ha g3 (caseC x) 30 := hB3.ext xa
  clear hB3 hx3 xa
  refine seqQ rfl rfl (yNot rfl rfl) ?_
  refine seqQ rfl rfl (yMove (v := .bool false) rfl rfl) ?_
  refine seqQ rfl rfl (yMove (v := .slice _ _ _) rfl rfl) ?_
  refine seqN rfl rfl (nBuildSlice (vs := [.slice _ _ _]) rfl Try.underlying33 Try.sizeOf23 Try.zeroValue23 rfl rfl rfl rfl) (fun g18 H18 hx18 hB18 hg18 hl18 => ?_)
  -- e slot 19: call F11<farandole/farandoleref57.Few> t18
  refine seqE rfl rfl (stepCall rfl Try.call11 rfl ?_)
  have hfl : lens [⟨A, ca, l⟩] = l.length := by unfold lens; simp
  refine (few57_c [⟨A, ca, l⟩] (some ⟨g18, 0, none⟩) 1 H18 ⟨Blk.rd (c := eLH) (l := [⟨A, ca, l⟩]) hB18, fun L hL => by rw [List.mem_singleton.1 hL]; exact (h.ext hE).ext hx18⟩ (by simp) (by rw [hfl]; exact hl) (fun L hL => by rw [List.mem_singleton.1 hL]; exact hvl)).mono ?_
  rintro v Hz ⟨⟨bf, rfl, hbf⟩, e⟩
  obtain rfl := e.symm
  clear e
  replace h3 := h3.ext hx18
  replace hE := hE.trans hx18
  clear hx18 hB18
  refine seqQ rfl rfl (yNot rfl rfl) ?_
  refine seqQ rfl rfl (yPickF (v := .bool _) rfl rfl rfl) ?_
  -- guard t22
  cases bf
  · skip
    refine seqQ rfl rfl (yMove (v := .bool true) rfl rfl) ?_
    refine seqU rfl rfl ?_
    refine seqU rfl rfl ?_
    refine seqU rfl rfl ?_
    refine seqU rfl rfl ?_
    refine seqU rfl rfl ?_
    refine seqQ rfl rfl (yPickT (v := .bool _) rfl rfl rfl) ?_
    refine seqQ rfl rfl (yMove (v := .bool true) rfl rfl) ?_
    refine seqU rfl rfl ?_
    refine seqU rfl rfl ?_
    refine seqU rfl rfl ?_
    refine seqU rfl rfl ?_
    refine seqQ rfl rfl (yPickT (v := .bool _) rfl rfl rfl) ?_
    refine seqNil ?_
    refine hF3 _ _ ?_; clear hF3
    -- if t34
    -- if t34
    refine wpT rfl ?_
    refine wpSeq fun F4 hF4 => ?_
    refine wpRegion ?_
    -- e slot 35: call F10<farandole/farandolelaw57.awake> 
    refine seqE rfl rfl (stepCall rfl Try.call10 rfl ?_)
    refine (logAwake_c _).mono ?_
    rintro v Hz ⟨rfl, xz⟩
    refine seqQ rfl rfl (yAssign (v := .bool _) rfl rfl) ?_
    refine seqNil ?_
    refine hF4 _ _ ?_; clear hF4
    -- ret
    refine wpRet (fin1 (v := .bool _) rfl rfl ?_)
    exact ⟨rfl, hE.trans xz⟩
  · skip
    have hF := hbf rfl
    have hsm : LogSm l := few_sm hF (List.mem_singleton_self _)
    refine seqQ rfl rfl (yMove (v := .bool false) rfl rfl) ?_
    refine seqQ rfl rfl (yFieldAddr rfl Try.underlying30 rfl Try.sizeOf26 rfl rfl) ?_
    refine seqQ rfl rfl (yFieldAddr rfl Try.underlying26 rfl Try.sizeOf24 rfl rfl) ?_
    refine seqQ rfl rfl (yLoad rfl Try.underlying24 rfl rfl (show cellH H18 ((⟨g3, 0, none⟩ : Addr).add 4) = some (.slice x.VA x.ev.values.length x.vc) from h3.cell (j := 4) rfl)) ?_
    refine seqQ rfl rfl (yLen rfl Try.underlying24 rfl) ?_
    refine seqQ rfl rfl (yGtr rfl rfl rfl) ?_
    refine seqQ rfl rfl (yPickF (v := .bool _) rfl rfl rfl) ?_
    -- guard t29
    refine seqG rfl rfl rfl rfl (fun hv6 => ?_) (fun hv6 => ?_)
    · skip
      refine seqU rfl rfl ?_
      refine seqU rfl rfl ?_
      refine seqU rfl rfl ?_
      refine seqU rfl rfl ?_
      refine seqQ rfl rfl (yPickT (v := .bool _) rfl rfl rfl) ?_
      refine seqNil ?_
      refine hF3 _ _ ?_; clear hF3
      -- if t34
      refine wpT rfl ?_
      refine wpSeq fun F5 hF5 => ?_
      refine wpRegion ?_
      -- e slot 35: call F10<farandole/farandolelaw57.awake> 
      refine seqE rfl rfl (stepCall rfl Try.call10 rfl ?_)
      refine (logAwake_c _).mono ?_
      rintro v Hz ⟨rfl, xz⟩
      refine seqQ rfl rfl (yAssign (v := .bool _) rfl rfl) ?_
      refine seqNil ?_
      refine hF5 _ _ ?_; clear hF5
      -- ret
      refine wpRet (fin1 (v := .bool _) rfl rfl ?_)
      exact ⟨rfl, hE.trans xz⟩
    · skip
      refine seqQ rfl rfl (yFieldAddr rfl Try.underlying30 rfl Try.sizeOf28 rfl rfl) ?_
      refine seqQ rfl rfl (yLoad rfl Try.underlying28 rfl rfl (show cellH H18 ((⟨g3, 0, none⟩ : Addr).add 7) = some (.slice x.CA x.clk.length x.cc) from h3.cell (j := 7) rfl)) ?_
      refine seqQ rfl rfl (yLen rfl Try.underlying28 rfl) ?_
      refine seqQ rfl rfl (yGtr rfl rfl rfl) ?_
      refine seqQ rfl rfl (yPickF (v := .bool _) rfl rfl rfl) ?_
      refine seqNil ?_
      refine hF3 _ _ ?_; clear hF3
      -- if t34
      refine wpIf rfl (fun hc10 => ?_) (fun hc10 => ?_)
      · skip
        refine wpSeq fun F6 hF6 => ?_
        refine wpRegion ?_
        -- e slot 35: call F10<farandole/farandolelaw57.awake> 
        refine seqE rfl rfl (stepCall rfl Try.call10 rfl ?_)
        refine (logAwake_c _).mono ?_
        rintro v Hz ⟨rfl, xz⟩
        refine seqQ rfl rfl (yAssign (v := .bool _) rfl rfl) ?_
        refine seqNil ?_
        refine hF6 _ _ ?_; clear hF6
        -- ret
        refine wpRet (fin1 (v := .bool _) rfl rfl ?_)
        exact ⟨rfl, hE.trans xz⟩
      · skip
        have hxv : x.ev.values.length ≤ 100000 := by omega
        have hxc : x.clk.length ≤ 100000 := by omega
        refine wpSkip ?_
        refine hF2 _ _ ?_; clear hF2
        refine wpSeq fun F7 hF7 => ?_
        refine wpRegion ?_
        refine seqQ rfl rfl (yMove (v := .slice _ _ _) rfl rfl) ?_
        refine seqN rfl rfl (nBuildSlice (vs := [.slice _ _ _]) rfl Try.underlying33 Try.sizeOf23 Try.zeroValue23 rfl rfl rfl rfl) (fun g37 H37 hx37 hB37 hg37 hl37 => ?_)
        -- e slot 38: call F12<farandole/farandolelaw57.Own> t37
        refine seqE rfl rfl (stepCall rfl Try.call12 rfl ?_)
        refine (own57_c [⟨A, ca, l⟩] (some ⟨g37, 0, none⟩) 1 H37 ⟨Blk.rd (c := eLH) (l := [⟨A, ca, l⟩]) hB37, fun L hL => by rw [List.mem_singleton.1 hL]; exact (h.ext hE).ext hx37⟩ (by simp) (fun L hL => by rw [List.mem_singleton.1 hL]; exact hsm.1)).mono ?_
        rintro v Hb ⟨ls', lo, hmp, xb⟩
        replace h3 := (h3.ext hx37).ext xb
        replace hE := (hE.trans hx37).trans xb
        clear hx37 hB37
        obtain ⟨L', rfl, hL'⟩ : ∃ L', ls' = [L'] ∧ L'.l = l := by
          match ls', hmp with
          | [L'], hmp => exact ⟨L', rfl, by simpa using hmp⟩
        obtain ⟨B1, c1, l1⟩ := L'
        dsimp only at hL'
        subst hL'
        have ro : LogRd Hb B1 l1 := ⟨(Own.rd (lo.logs _ (List.mem_singleton_self _)).1).2, fun y hy => (h.2 y hy).ext hE⟩
        obtain ⟨S, sc, rfl, -, rS, -⟩ := lo.own.form
        obtain ⟨q, eq, hq⟩ := rS.at1 (k := 0) (by simp)
        replace hq : cellH Hb (q.add 0) = some (.slice B1 l1.length c1) := hq
        clear lo rS hmp
        refine seqQ rfl rfl (yIdxP1 rfl Try.underlying36 Try.sizeOf35 rfl rfl eq rfl (show 0 < 1 by decide)) ?_
        refine seqQ rfl rfl (yLoad rfl Try.underlying35 rfl rfl hq) ?_
        refine seqQ rfl rfl (yAssign (v := .slice _ _ _) rfl rfl) ?_
        refine seqNil ?_
        refine hF7 _ _ ?_; clear hF7
        refine wpSeq fun F8 hF8 => ?_
        refine wpRegion ?_
        refine seqQ rfl rfl (yMove (v := .slice _ _ _) rfl rfl) ?_
        refine seqQ rfl rfl (yFieldAddr rfl Try.underlying30 rfl Try.sizeOf3 rfl rfl) ?_
        refine seqQ rfl rfl (yLoad rfl Try.underlying3 rfl rfl (show cellH _ ((⟨g3, 0, none⟩ : Addr).add 5) = some (.int .i64 x.role) from h3.cell (j := 5) rfl)) ?_
        refine seqQ rfl rfl (yFieldAddr rfl Try.underlying30 rfl Try.sizeOf3 rfl rfl) ?_
        refine seqQ rfl rfl (yLoad rfl Try.underlying3 rfl rfl (show cellH _ ((⟨g3, 0, none⟩ : Addr).add 6) = some (.int .i64 x.roles) from h3.cell (j := 6) rfl)) ?_
        refine seqQ rfl rfl (yFieldAddr rfl Try.underlying30 rfl Try.sizeOf26 rfl rfl) ?_
        refine seqQ rfl rfl (yLoadC (cs := evC x.ev x.VA x.vc) rfl Try.underlying26 rfl Try.sizeOf26 rfl (fun j u hu => h3.cell (case_ev hu))) ?_
        -- e slot 49: call F13<farandole/log.Send> t42 t44 t46 t48
        refine seqE rfl rfl (stepCall rfl Try.call13 rfl ?_)
        refine (send_c l1 B1 c1 x.role x.roles x.ev x.VA x.vc Hb ro hsm (hx.1.ext hE) hxv).mono ?_
        rintro v Hc ⟨B2, c2, l2, rfl, lo2, hm2, xc⟩
        have ro2 := lo2.rd
        replace h3 := h3.ext xc
        replace hE := hE.trans xc
        replace ro := ro.ext xc
        clear lo2
        refine seqQ rfl rfl (yMove (v := .tuple _) rfl rfl) ?_
        refine seqQ rfl rfl (yExtract (v := .slice _ _ _) rfl rfl rfl) ?_
        refine seqQ rfl rfl (yExtract (v := .int _ _) rfl rfl rfl) ?_
        refine seqQ rfl rfl (yAssign (v := .slice _ _ _) rfl rfl) ?_
        refine seqQ rfl rfl (yAssign (v := .int _ _) rfl rfl) ?_
        refine seqNil ?_
        refine hF8 _ _ ?_; clear hF8
        refine wpSeq fun F9 hF9 => ?_
        refine wpRegion ?_
        refine seqQ rfl rfl (yMove (v := .slice _ _ _) rfl rfl) ?_
        refine seqQ rfl rfl (yFieldAddr rfl Try.underlying30 rfl Try.sizeOf3 rfl rfl) ?_
        refine seqQ rfl rfl (yLoad rfl Try.underlying3 rfl rfl (show cellH _ ((⟨g3, 0, none⟩ : Addr).add 5) = some (.int .i64 x.role) from h3.cell (j := 5) rfl)) ?_
        refine seqQ rfl rfl (yFieldAddr rfl Try.underlying30 rfl Try.sizeOf3 rfl rfl) ?_
        refine seqQ rfl rfl (yLoad rfl Try.underlying3 rfl rfl (show cellH _ ((⟨g3, 0, none⟩ : Addr).add 6) = some (.int .i64 x.roles) from h3.cell (j := 6) rfl)) ?_
        refine seqQ rfl rfl (yFieldAddr rfl Try.underlying30 rfl Try.sizeOf26 rfl rfl) ?_
        refine seqQ rfl rfl (yLoadC (cs := evC x.ev x.VA x.vc) rfl Try.underlying26 rfl Try.sizeOf26 rfl (fun j u hu => h3.cell (case_ev hu))) ?_
        -- e slot 60: call F14<farandole/farandoleref57.Send> t53 t55 t57 t59
        refine seqE rfl rfl (stepCall rfl Try.call14 rfl ?_)
        refine (rsend_c l1 A ca x.role x.roles x.ev x.VA x.vc Hc (h.ext hE) hsm (hx.1.ext hE) hxv).mono ?_
        rintro v Hd ⟨B3, c3, l3, rfl, ro3, hm3, xd⟩
        replace h3 := h3.ext xd
        replace hE := hE.trans xd
        replace ro := ro.ext xd
        replace ro2 := ro2.ext xd
        refine seqQ rfl rfl (yMove (v := .tuple _) rfl rfl) ?_
        refine seqQ rfl rfl (yExtract (v := .slice _ _ _) rfl rfl rfl) ?_
        refine seqQ rfl rfl (yExtract (v := .int _ _) rfl rfl rfl) ?_
        refine seqQ rfl rfl (yAssign (v := .slice _ _ _) rfl rfl) ?_
        refine seqQ rfl rfl (yAssign (v := .int _ _) rfl rfl) ?_
        refine seqNil ?_
        refine hF9 _ _ ?_; clear hF9
        refine wpSeq fun F10 hF10 => ?_
        refine wpRegion ?_
        refine seqQ rfl rfl (yMove (v := .slice _ _ _) rfl rfl) ?_
        refine seqQ rfl rfl (yFieldAddr rfl Try.underlying30 rfl Try.sizeOf3 rfl rfl) ?_
        refine seqQ rfl rfl (yLoad rfl Try.underlying3 rfl rfl (show cellH _ ((⟨g3, 0, none⟩ : Addr).add 5) = some (.int .i64 x.role) from h3.cell (j := 5) rfl)) ?_
        refine seqQ rfl rfl (yFieldAddr rfl Try.underlying30 rfl Try.sizeOf3 rfl rfl) ?_
        refine seqQ rfl rfl (yLoad rfl Try.underlying3 rfl rfl (show cellH _ ((⟨g3, 0, none⟩ : Addr).add 6) = some (.int .i64 x.roles) from h3.cell (j := 6) rfl)) ?_
        refine seqQ rfl rfl (yFieldAddr rfl Try.underlying30 rfl Try.sizeOf26 rfl rfl) ?_
        refine seqQ rfl rfl (yLoadC (cs := evC x.ev x.VA x.vc) rfl Try.underlying26 rfl Try.sizeOf26 rfl (fun j u hu => h3.cell (case_ev hu))) ?_
        refine seqQ rfl rfl (yFieldAddr rfl Try.underlying30 rfl Try.sizeOf28 rfl rfl) ?_
        refine seqQ rfl rfl (yLoad rfl Try.underlying28 rfl rfl (show cellH _ ((⟨g3, 0, none⟩ : Addr).add 7) = some (.slice x.CA x.clk.length x.cc) from h3.cell (j := 7) rfl)) ?_
        -- e slot 73: call F15<farandole/log.Receive> t64 t66 t68 t70 t72
        refine seqE rfl rfl (stepCall rfl Try.call15 rfl ?_)
        refine (receiveL_c l1 B1 c1 x.role x.roles x.ev x.VA x.vc x.clk x.CA x.cc Hd ro hsm (hx.1.ext hE) hxv (hx.2.ext hE) hxc).mono ?_
        rintro v He ⟨B4, c4, l4, rfl, lo4, hm4, xe⟩
        have ro4 := lo4.rd
        replace h3 := h3.ext xe
        replace hE := hE.trans xe
        replace ro := ro.ext xe
        replace ro2 := ro2.ext xe
        replace ro3 := ro3.ext xe
        clear lo4
        refine seqQ rfl rfl (yMove (v := .tuple _) rfl rfl) ?_
        refine seqQ rfl rfl (yExtract (v := .slice _ _ _) rfl rfl rfl) ?_
        refine seqQ rfl rfl (yExtract (v := .int _ _) rfl rfl rfl) ?_
        refine seqQ rfl rfl (yAssign (v := .slice _ _ _) rfl rfl) ?_
        refine seqQ rfl rfl (yAssign (v := .int _ _) rfl rfl) ?_
        refine seqNil ?_
        refine hF10 _ _ ?_; clear hF10
        refine wpSeq fun F11 hF11 => ?_
        refine wpRegion ?_
        refine seqQ rfl rfl (yMove (v := .slice _ _ _) rfl rfl) ?_
        refine seqQ rfl rfl (yFieldAddr rfl Try.underlying30 rfl Try.sizeOf3 rfl rfl) ?_
        refine seqQ rfl rfl (yLoad rfl Try.underlying3 rfl rfl (show cellH _ ((⟨g3, 0, none⟩ : Addr).add 5) = some (.int .i64 x.role) from h3.cell (j := 5) rfl)) ?_
        refine seqQ rfl rfl (yFieldAddr rfl Try.underlying30 rfl Try.sizeOf3 rfl rfl) ?_
        refine seqQ rfl rfl (yLoad rfl Try.underlying3 rfl rfl (show cellH _ ((⟨g3, 0, none⟩ : Addr).add 6) = some (.int .i64 x.roles) from h3.cell (j := 6) rfl)) ?_
        refine seqQ rfl rfl (yFieldAddr rfl Try.underlying30 rfl Try.sizeOf26 rfl rfl) ?_
        refine seqQ rfl rfl (yLoadC (cs := evC x.ev x.VA x.vc) rfl Try.underlying26 rfl Try.sizeOf26 rfl (fun j u hu => h3.cell (case_ev hu))) ?_
        refine seqQ rfl rfl (yFieldAddr rfl Try.underlying30 rfl Try.sizeOf28 rfl rfl) ?_
        refine seqQ rfl rfl (yLoad rfl Try.underlying28 rfl rfl (show cellH _ ((⟨g3, 0, none⟩ : Addr).add 7) = some (.slice x.CA x.clk.length x.cc) from h3.cell (j := 7) rfl)) ?_
        -- e slot 86: call F16<farandole/farandoleref57.Receive> t77 t79 t81 t83 t85
        refine seqE rfl rfl (stepCall rfl Try.call16 rfl ?_)
        refine (rreceiveL_c l1 A ca x.role x.roles x.ev x.VA x.vc x.clk x.CA x.cc He (h.ext hE) hsm (hx.1.ext hE) hxv (hx.2.ext hE) hxc).mono ?_
        rintro v Hf ⟨B5, c5, l5, rfl, ro5, hm5, xf⟩
        replace h3 := h3.ext xf
        replace hE := hE.trans xf
        replace ro := ro.ext xf
        replace ro2 := ro2.ext xf
        replace ro3 := ro3.ext xf
        replace ro4 := ro4.ext xf
        refine seqQ rfl rfl (yMove (v := .tuple _) rfl rfl) ?_
        refine seqQ rfl rfl (yExtract (v := .slice _ _ _) rfl rfl rfl) ?_
        refine seqQ rfl rfl (yExtract (v := .int _ _) rfl rfl rfl) ?_
        refine seqQ rfl rfl (yAssign (v := .slice _ _ _) rfl rfl) ?_
        refine seqQ rfl rfl (yAssign (v := .int _ _) rfl rfl) ?_
        refine seqNil ?_
        refine hF11 _ _ ?_; clear hF11
        refine wpSeq fun F12 hF12 => ?_
        refine wpRegionD Try_mixed [.q, .q, .q, .q, .q, .e, .q, .q, .q, .q, .q, .e, .q, .q, .q, .q, .q, .q, .q, .q, .e, .q, .e, .q, .q, .q, .q, .q, .q, .q, .q, .e, .q, .e, .q, .q, .q, .e, .q, .e, .e, .q, .q] 39 [0, 0, 2, 0, 8, 31, 0, 0, 128, 0, 512, 2047, 4095, 8191, 16383, 16383, 65535, 131071, 262143, 524287, 1048575, 524287, 4194303, 8388607, 16777215, 33554431, 33554431, 134217727, 268435455, 536870911, 1073741823, 2147483647, 1073741823, 8589934591, 17179869183, 34359738367, 68719476735, 137438953471, 68719476735, 549755813887, 1099511627775, 2199023255551, 4398046511103] [] (by kernel_rfl) _ rfl [0, 1, 2, 3, 4, 5, 6, 7, 8, 9, 10, 11, 12, 13, 14, 15, 16, 17, 18, 19, 20, 21, 22, 23, 24, 25, 26, 27, 28, 29, 30, 31, 32, 33, 34, 35, 36, 37, 38] rfl (by simp) ?_
        refine lexQ rfl rfl rfl rfl (fun H hM => (yMove (v := .slice _ _ _) rfl rfl)) ?_
        refine lexQ rfl rfl rfl rfl (fun H hM => (yFieldAddr rfl Try.underlying30 rfl Try.sizeOf3 rfl rfl)) ?_
        refine lexQ rfl rfl rfl rfl (fun H hM => (yLoad rfl Try.underlying3 rfl rfl (hM.ext.cell (show cellH Hf ((⟨g3, 0, none⟩ : Addr).add 5) = some (.int .i64 x.role) from h3.cell (j := 5) rfl)))) ?_
        refine lexQ rfl rfl rfl rfl (fun H hM => (yFieldAddr rfl Try.underlying30 rfl Try.sizeOf3 rfl rfl)) ?_
        refine lexQ rfl rfl rfl rfl (fun H hM => (yLoad rfl Try.underlying3 rfl rfl (hM.ext.cell (show cellH Hf ((⟨g3, 0, none⟩ : Addr).add 6) = some (.int .i64 x.roles) from h3.cell (j := 6) rfl)))) ?_
        -- e slot 94: call F17<farandole/log.Valid> t89 t91 t93
        refine lexX0 rfl rfl rfl rfl rfl (by simp) (fun hM94 => stepCall rfl Try.call17 rfl ?_)
        refine (logValid_c l1 B1 c1 x.role x.roles Hf ro hsm).mono ?_
        rintro v I1 ⟨rfl, y1⟩
        refine ⟨y1, fun _ => ?_⟩
        refine lexQ rfl rfl rfl rfl (fun H hM => (yMove (v := .slice _ _ _) rfl rfl)) ?_
        refine lexQ rfl rfl rfl rfl (fun H hM => (yFieldAddr rfl Try.underlying30 rfl Try.sizeOf3 rfl rfl)) ?_
        refine lexQ rfl rfl rfl rfl (fun H hM => (yLoad rfl Try.underlying3 rfl rfl (hM.ext.cell (show cellH Hf ((⟨g3, 0, none⟩ : Addr).add 5) = some (.int .i64 x.role) from h3.cell (j := 5) rfl)))) ?_
        refine lexQ rfl rfl rfl rfl (fun H hM => (yFieldAddr rfl Try.underlying30 rfl Try.sizeOf3 rfl rfl)) ?_
        refine lexQ rfl rfl rfl rfl (fun H hM => (yLoad rfl Try.underlying3 rfl rfl (hM.ext.cell (show cellH Hf ((⟨g3, 0, none⟩ : Addr).add 6) = some (.int .i64 x.roles) from h3.cell (j := 6) rfl)))) ?_
        -- e slot 100: call F18<farandole/farandoleref57.Valid> t95 t97 t99
        refine lexX0 rfl rfl rfl rfl rfl (by simp) (fun hM100 => stepCall rfl Try.call18 rfl ?_)
        refine (rlogValid_c l1 A ca x.role x.roles I1 ((h.ext hE).ext y1) hsm).mono ?_
        rintro v I2 ⟨rfl, y2⟩
        refine ⟨y2, fun _ => ?_⟩
        have x2 := y1.trans y2
        have hml : (l1.map EH.ent).length ≤ 60 := by rw [List.length_map]; have := hF.2.2; rw [hfl] at this; exact this
        obtain ⟨s2, t2⟩ := sendL_sm (role := x.role) (roles := x.roles) (e := x.ev) hml hsm.ents hxv (fun hr => lastC_sm hsm hr)
        obtain ⟨s4, t4⟩ := recvL_sm (role := x.role) (roles := x.roles) (e := x.ev) (m := x.clk) hml hsm.ents hxv
        rw [← hm2] at s2 t2
        rw [← hm4] at s4 t4
        have sm2 := sm_of (by rwa [List.length_map] at s2) t2
        have sm4 := sm_of (by rwa [List.length_map] at s4) t4
        have sm3 := sm_of (l := l3) (by rw [← List.length_map (f := EH.ent), hm3, ← hm2]; exact s2) (by rw [hm3, ← hm2]; exact t2)
        have sm5 := sm_of (l := l5) (by rw [← List.length_map (f := EH.ent), hm5, ← hm4]; exact s4) (by rw [hm5, ← hm4]; exact t4)
        refine lexQ rfl rfl rfl rfl (fun H hM => (yEqlB rfl Try.underlying4 rfl rfl)) ?_
        -- guard t102
        rw [beq_self_eq_true]
        refine lexQ rfl rfl rfl rfl (fun H hM => (yMove (v := .bool true) rfl rfl)) ?_
        refine lexQ rfl rfl rfl rfl (fun H hM => (yMove (v := .int _ _) rfl rfl)) ?_
        refine lexQ rfl rfl rfl rfl (fun H hM => (yMove (v := .int _ _) rfl rfl)) ?_
        refine lexQ rfl rfl rfl rfl (fun H hM => (yEql rfl rfl rfl)) ?_
        refine lexQ rfl rfl rfl rfl (fun H hM => (yPickT (v := .bool _) rfl rfl rfl)) ?_
        -- guard t107
        rw [decide_eq_true (rfl : (sendL (l1.map EH.ent) x.role x.roles x.ev).1 = (sendL (l1.map EH.ent) x.role x.roles x.ev).1)]
        refine lexQ rfl rfl rfl rfl (fun H hM => (yMove (v := .bool true) rfl rfl)) ?_
        refine lexQ rfl rfl rfl rfl (fun H hM => (yMove (v := .slice _ _ _) rfl rfl)) ?_
        -- e slot 109: call F20<farandole/farandolelaw57.Theirs> t108
        refine lexX0 rfl rfl rfl rfl rfl (by simp) (fun hM109 => stepCall rfl Try.call20 rfl ?_)
        refine (theirs_c l2 B2 c2 I2 (ro2.ext x2).1 sm2.1).mono ?_
        rintro v I3 ⟨o6, y3⟩
        refine ⟨y3, fun _ => ?_⟩
        obtain ⟨B6, c6, rfl, -⟩ := o6.form
        replace x2 := x2.trans y3
        refine lexQ rfl rfl rfl rfl (fun H hM => (yMove (v := .slice _ _ _) rfl rfl)) ?_
        -- e slot 111: call F19<farandole/farandoleref57.Same> t109 t110
        refine lexX0 rfl rfl rfl rfl rfl (by simp) (fun hM111 => stepCall rfl Try.call19 rfl ?_)
        refine (sameLog_c l2 l3 B6 B3 c6 c3 I3 ⟨(Own.rd o6).2, (ro2.ext x2).2⟩ (ro3.ext x2) sm2 (fun y hy => by have := (sm3.2 y hy).2; omega)).mono ?_
        rintro v I4 ⟨hv, y4⟩
        refine ⟨y4, fun _ => ?_⟩
        obtain rfl : v = .bool true := hv.trans (by rw [decide_eq_true (by rw [hm2, hm3])])
        replace x2 := x2.trans y4
        clear o6
        refine lexQ rfl rfl rfl rfl (fun H hM => (yPickT (v := .bool _) rfl rfl rfl)) ?_
        refine lexQ rfl rfl rfl rfl (fun H hM => (yMove (v := .bool true) rfl rfl)) ?_
        refine lexQ rfl rfl rfl rfl (fun H hM => (yMove (v := .int _ _) rfl rfl)) ?_
        refine lexQ rfl rfl rfl rfl (fun H hM => (yMove (v := .int _ _) rfl rfl)) ?_
        refine lexQ rfl rfl rfl rfl (fun H hM => (yEql rfl rfl rfl)) ?_
        refine lexQ rfl rfl rfl rfl (fun H hM => (yPickT (v := .bool _) rfl rfl rfl)) ?_
        -- guard t118
        rw [decide_eq_true (rfl : (recvL (l1.map EH.ent) x.role x.roles x.ev x.clk).1 = (recvL (l1.map EH.ent) x.role x.roles x.ev x.clk).1)]
        refine lexQ rfl rfl rfl rfl (fun H hM => (yMove (v := .bool true) rfl rfl)) ?_
        refine lexQ rfl rfl rfl rfl (fun H hM => (yMove (v := .slice _ _ _) rfl rfl)) ?_
        -- e slot 120: call F20<farandole/farandolelaw57.Theirs> t119
        refine lexX0 rfl rfl rfl rfl rfl (by simp) (fun hM120 => stepCall rfl Try.call20 rfl ?_)
        refine (theirs_c l4 B4 c4 I4 (ro4.ext x2).1 sm4.1).mono ?_
        rintro v I5 ⟨o7, y5⟩
        refine ⟨y5, fun _ => ?_⟩
        obtain ⟨B7, c7, rfl, -⟩ := o7.form
        replace x2 := x2.trans y5
        refine lexQ rfl rfl rfl rfl (fun H hM => (yMove (v := .slice _ _ _) rfl rfl)) ?_
        -- e slot 122: call F19<farandole/farandoleref57.Same> t120 t121
        refine lexX0 rfl rfl rfl rfl rfl (by simp) (fun hM122 => stepCall rfl Try.call19 rfl ?_)
        refine (sameLog_c l4 l5 B7 B5 c7 c5 I5 ⟨(Own.rd o7).2, (ro4.ext x2).2⟩ (ro5.ext x2) sm4 (fun y hy => by have := (sm5.2 y hy).2; omega)).mono ?_
        rintro v I6 ⟨hv, y6⟩
        refine ⟨y6, fun _ => ?_⟩
        obtain rfl : v = .bool true := hv.trans (by rw [decide_eq_true (by rw [hm4, hm5])])
        replace x2 := x2.trans y6
        clear o7
        refine lexQ rfl rfl rfl rfl (fun H hM => (yPickT (v := .bool _) rfl rfl rfl)) ?_
        refine lexQ rfl rfl rfl rfl (fun H hM => (yMove (v := .bool true) rfl rfl)) ?_
        refine lexQ rfl rfl rfl rfl (fun H hM => (yMove (v := .slice _ _ _) rfl rfl)) ?_
        -- e slot 126: call F22<farandole/log.Events> t125
        refine lexX0 rfl rfl rfl rfl rfl (by simp) (fun hM126 => stepCall rfl Try.call22 rfl ?_)
        refine (events_c l1 B1 c1 I6 (ro.ext x2) hsm).mono ?_
        rintro v I7 ⟨es, oe, he1, re, y7⟩
        refine ⟨y7, fun _ => ?_⟩
        obtain ⟨B8, c8, rfl, -⟩ := oe.form
        replace x2 := x2.trans y7
        refine lexQ rfl rfl rfl rfl (fun H hM => (yMove (v := .slice _ _ _) rfl rfl)) ?_
        -- tail
        refine lexNil0 rfl (fun hM => ?_)
        -- e slot 128: call F23<farandole/farandoleref57.Events> t127
        refine seqE rfl rfl (stepCall rfl Try.call23 rfl ?_)
        refine (revents_c l1 A ca I7 ((h.ext hE).ext x2) hsm).mono ?_
        rintro v I8 ⟨es2, oe2, he2, re2, y8⟩
        obtain ⟨B9, c9, rfl, -⟩ := oe2.form
        -- e slot 129: call F21<farandole/farandoleref01.SameEvents> t126 t128
        refine seqE rfl rfl (stepCall rfl Try.call21 rfl ?_)
        refine (sameEvents_c es es2 B8 B9 c8 c9 I8 ⟨(Own.rd (oe.ext y8)).2, fun y hy => (re y hy).ext y8⟩ ⟨(Own.rd oe2).2, re2⟩ (by have := congrArg List.length he1; rw [List.length_map, List.length_map] at this; have := hsm.1; omega) (fun y hy => by
          have hy2 : y.ev ∈ l1.map EH.ev := by rw [← he1]; exact List.mem_map_of_mem hy
          obtain ⟨z, hz, ez⟩ := List.mem_map.1 hy2
          have := (hsm.2 z hz).1
          rw [← ez]
          omega)).mono ?_
        rintro v I9 ⟨hv, y9⟩
        obtain rfl : v = .bool true := hv.trans (by rw [decide_eq_true (by rw [he1, he2])])
        refine seqQ rfl rfl (yPickT (v := .bool _) rfl rfl rfl) ?_
        refine seqQ rfl rfl (yAssign (v := .bool _) rfl rfl) ?_
        refine seqNil ?_
        refine hF12 _ _ ?_; clear hF12
        -- ret
        refine wpRet (fin1 (v := .bool _) rfl rfl ?_)
        exact ⟨rfl, ((hE.trans x2).trans y8).trans y9⟩
set_option maxRecDepth 100000 in
set_option maxRecDepth 100000 in
theorem logAppend_lifted (os : Os) (started : os.Started) (H : Type) (enc : TypeId × Value → H) :
    ReturnsInHanded {} Try.checked os 3 .any (Rows.logAppendSpec.pre6 enc Try.prog Try.f3 Rows.logAppendRow.domain false) (Rows.logAppendSpec.post enc Try.prog Try.f3 false true false false) := by
  refine law_lifted started Rows.logAppendSpec rfl (by kernel_rfl) Try.func3 rfl
    (fun ds h => by match ds, h with | [_, _], _ => rfl) (of_decide_eq_true (by kernel_rfl))
    (ChangeSpec.witness6 (enc := enc) (C := Try.checked) false ⟨#[], #[.slice none 0 0, .agg #[.int .i64 0, .bool false, .int .i64 0, .int .i64 0, .slice none 0 0, .int .i64 0, .int .i64 0, .slice none 0 0]], []⟩ 8 (by kernel_rfl) (by kernel_rfl) (by kernel_rfl) (by kernel_rfl)) ?_
  intro W base args ds p hval hA
  rw [Try.params3] at hA hval
  obtain ⟨v0, v1, d0, d1, p0, p1, rfl, rfl, rfl, h0, h1⟩ := trodAll_two hA
  have g0 := hval 0 _ v0 rfl rfl
  have g1 := hval 1 _ v1 rfl rfl
  obtain ⟨⟨A, ca, l⟩, rfl, kA, kl, hl, hl2⟩ := (opn_log W).one (one_slice Try.underlying23 g0) h0
  obtain ⟨x, rfl, kx, -⟩ := (opn_case W).agg Try.underlying30 rfl g1 h1
  exact append_walk l A ca x W.heap ⟨kA, fun y hy => (kl y hy).1⟩ (maxLen_eq hl hl2) (fun y hy => (kl y hy).2) kx
set_option maxRecDepth 100000 in
theorem logAppend_holds : Rows.LogAppendSaid :=
  OpenClaim.holds_of_wide 3 Try.f3 rfl rfl rfl rfl rfl rfl rfl ⟨rfl, rfl, rfl, rfl, rfl⟩ rfl rfl rfl rfl rfl (by kernel_rfl) Try.func3 (by kernel_rfl)
    (of_decide_eq_true (by kernel_rfl)) (by unfold Func.isWrapper; first | (rw [if_pos (by decide +kernel)]; kernel_rfl) | (rw [if_neg (by decide +kernel)]; exact ⟨rfl, rfl⟩))
    (fun os started H enc _ => logAppend_lifted os started H enc)
end Go.Proofs.Ytbanngdijmglbaa
