/- Package log: which logs are valid. -/
import Derived.Test.YtbanngdijmglbaaM2
namespace Go.Proofs.Ytbanngdijmglbaa
open Go.RowKit

def ent0 : Ent := ⟨⟨0, false, 0, 0, []⟩, []⟩
def EntOk (l : List Ent) (role roles : Int) (k : Nat) : Prop := standsE (l.getD k ent0).ev role roles ∧ okC (l.getD k ent0).clk = true ∧ ((l.getD k ent0).clk.length : Int) = roles ∧ (l.getD k ent0).clk.getD role.toNat 0 = k + 1 ∧ (0 < k → leB (l.getD (k - 1) ent0).clk (l.getD k ent0).clk = true)
instance (l : List Ent) (role roles : Int) (k : Nat) : Decidable (EntOk l role roles k) := by unfold EntOk; infer_instance
def ValidLog (l : List Ent) (role roles : Int) : Prop := (1 ≤ roles ∧ roles ≤ 6) ∧ (0 ≤ role ∧ role < roles) ∧ l.length ≤ 1000 ∧ ∀ k, k < l.length → EntOk l role roles k
instance (l : List Ent) (role roles : Int) : Decidable (ValidLog l role roles) := by unfold ValidLog; infer_instance
set_option maxRecDepth 100000 in
theorem ev_sub {x : EH} {j : Nat} {u : Value} (hu : (evC x.ev x.VA x.vc)[j]? = some u) : (eEH.F x)[j]? = some u := by
  have hj : j < 5 := (List.getElem?_eq_some_iff.1 hu).1
  match j, hj with
  | 0, _ => exact hu
  | 1, _ => exact hu
  | 2, _ => exact hu
  | 3, _ => exact hu
  | 4, _ => exact hu
set_option maxRecDepth 100000 in
theorem getD_ent (l : List EH) {k : Nat} (hk : k < l.length) : (l.map EH.ent).getD k ent0 = l[k].ent := by
  rw [List.getD_eq_getElem?_getD, List.getElem?_map, List.getElem?_eq_getElem hk]
  rfl
set_option maxRecDepth 100000 in
theorem leB_iff : ∀ (a b : List Int), a.length = b.length → (leB a b = true ↔ ∀ p, p < a.length → a.getD p 0 ≤ b.getD p 0)
  | [], [], _ => by simp [leB]
  | x :: a, y :: b, h => by
    simp only [leB, Bool.and_eq_true, decide_eq_true_eq]
    rw [leB_iff a b (by simpa using h)]
    constructor
    · rintro ⟨h1, h2⟩ p hp
      cases p with
      | zero => exact h1
      | succ p => exact h2 p (by simpa using hp)
    · intro h'
      exact ⟨h' 0 (by simp), fun p hp => h' (p + 1) (by simpa using hp)⟩
  | [], _ :: _, h => by simp at h
  | _ :: _, [], h => by simp at h
set_option maxRecDepth 100000 in
theorem leB_zero {c : List Int} (h : ∀ x ∈ c, 0 ≤ x) : leB (List.replicate c.length 0) c = true := by
  rw [leB_iff _ _ (by simp)]
  intro p hp
  rw [List.length_replicate] at hp
  simp only [List.getD_eq_getElem?_getD]
  rw [List.getElem?_eq_getElem (by simpa using hp), List.getElem?_eq_getElem hp]
  simp only [List.getElem_replicate, Option.getD_some]
  exact h _ (List.getElem_mem hp)
set_option maxRecDepth 100000 in
/-- The clock of a valid entry is behind the one before it exactly if it is at least that. -/
theorem before_ok {l : List Ent} {role roles : Int} {k : Nat} {last : List Int} (h0 : k = 0 → last = List.replicate roles.toNat 0) (hk : 0 < k → last = (l.getD (k - 1) ent0).clk)
    (hp : 0 < k → EntOk l role roles (k - 1)) (h2 : okC (l.getD k ent0).clk = true) (h3 : ((l.getD k ent0).clk.length : Int) = roles) (h4 : (l.getD k ent0).clk.getD role.toNat 0 = k + 1) :
    (beforeB last (l.getD k ent0).clk = true ↔ (0 < k → leB (l.getD (k - 1) ent0).clk (l.getD k ent0).clk = true)) := by
  obtain ⟨o1, o2, o3, o4⟩ := okC_of h2
  generalize l.getD k ent0 = x at *
  by_cases hk0 : k = 0
  · subst hk0
    have e := h0 rfl
    have hl : roles.toNat = x.clk.length := by omega
    have hb : beforeB last x.clk = true := by
      unfold beforeB
      rw [e, hl, leB_zero o3, List.length_replicate]
      simp only [decide_true, Bool.true_and, Bool.and_true, Bool.not_eq_true', decide_eq_false_iff_not]
      intro he
      rw [← he] at h4
      simp only [List.getD_eq_getElem?_getD, List.getElem?_replicate] at h4
      split at h4 <;> simp at h4
    exact ⟨fun _ h => absurd h (by omega), fun _ => hb⟩
  · have hk1 : 0 < k := by omega
    have e := hk hk1
    obtain ⟨-, -, p3, p4, -⟩ := hp hk1
    rw [← e] at p3 p4
    have hl : last.length = x.clk.length := by omega
    have hne : last ≠ x.clk := by
      intro he
      rw [he] at p4
      omega
    unfold beforeB
    rw [decide_eq_true hl, decide_eq_false hne, ← e]
    simp only [Bool.not_false, Bool.true_and]
    exact ⟨fun h _ => h, fun h => h hk1⟩
set_option maxRecDepth 100000 in
theorem logValid_c (l : List EH) (A : Option Addr) (ca : Nat) (role roles : Int) (H : Heap) (h : LogRd H A l) (hs : LogSm l) :
    CallsH Try.prog 17 [.slice A l.length ca, .int .i64 role, .int .i64 roles] H fun v H' => v = .bool (decide (ValidLog (l.map EH.ent) role roles)) ∧ Ext H H' := by
  have s1 := hs.1
  have hml : (l.map EH.ent).length = l.length := List.length_map _
  refine callsH_of Try.func17 rfl Try.ntmps17 (Nat.le_of_ble_eq_true rfl) ?_
  refine wpSeq fun F1 hF1 => ?_
  refine wpRegion ?_
  refine seqQ rfl rfl (yAssign (v := .bool _) rfl rfl) ?_
  refine seqNil ?_
  refine hF1 _ _ ?_; clear hF1
  refine wpSeq fun F2 hF2 => ?_
  refine wpSeq fun F3 hF3 => ?_
  refine wpRegion ?_
  refine seqQ rfl rfl (yMove (v := .int _ _) rfl rfl) ?_
  refine seqQ rfl rfl (yLss rfl rfl rfl) ?_
  first | refine seqG rfl rfl rfl rfl (fun h12 => ?_) (fun h12 => ?_) | refine seqGB rfl rfl rfl rfl (fun h12 => ?_) (fun h12 => ?_)
  · skip
    refine seqU rfl rfl ?_
    refine seqU rfl rfl ?_
    refine seqQ rfl rfl (yPickT (v := .bool _) rfl rfl rfl) ?_
    refine seqQ rfl rfl (yMove (v := .bool true) rfl rfl) ?_
    refine seqU rfl rfl ?_
    refine seqU rfl rfl ?_
    refine seqQ rfl rfl (yPickT (v := .bool _) rfl rfl rfl) ?_
    refine seqQ rfl rfl (yMove (v := .bool true) rfl rfl) ?_
    refine seqU rfl rfl ?_
    refine seqU rfl rfl ?_
    refine seqU rfl rfl ?_
    refine seqQ rfl rfl (yPickT (v := .bool _) rfl rfl rfl) ?_
    refine seqQ rfl rfl (yMove (v := .bool true) rfl rfl) ?_
    refine seqU rfl rfl ?_
    refine seqU rfl rfl ?_
    refine seqU rfl rfl ?_
    refine seqQ rfl rfl (yPickT (v := .bool _) rfl rfl rfl) ?_
    refine seqNil ?_
    refine hF3 _ _ ?_; clear hF3
    refine wpT rfl ?_
    refine wpSeq fun F4 hF4 => ?_
    refine wpRegion ?_
    refine seqQ rfl rfl (yAssign (v := .bool _) rfl rfl) ?_
    refine seqNil ?_
    refine hF4 _ _ ?_; clear hF4
    refine wpRet (fin1 (v := .bool _) rfl rfl ?_)
    exact ⟨by rw [decide_eq_false (fun hv => by have h1 := hv.1; have h2 := hv.2.1; have h3 := hv.2.2.1; omega)], Ext.refl _⟩
  refine seqQ rfl rfl (yMove (v := .int _ _) rfl rfl) ?_
  refine seqQ rfl rfl (yGtr rfl rfl rfl) ?_
  refine seqQ rfl rfl (yPickF (v := .bool _) rfl rfl rfl) ?_
  first | refine seqG rfl rfl rfl rfl (fun h16 => ?_) (fun h16 => ?_) | refine seqGB rfl rfl rfl rfl (fun h16 => ?_) (fun h16 => ?_)
  · skip
    refine seqU rfl rfl ?_
    refine seqU rfl rfl ?_
    refine seqQ rfl rfl (yPickT (v := .bool _) rfl rfl rfl) ?_
    refine seqQ rfl rfl (yMove (v := .bool true) rfl rfl) ?_
    refine seqU rfl rfl ?_
    refine seqU rfl rfl ?_
    refine seqU rfl rfl ?_
    refine seqQ rfl rfl (yPickT (v := .bool _) rfl rfl rfl) ?_
    refine seqQ rfl rfl (yMove (v := .bool true) rfl rfl) ?_
    refine seqU rfl rfl ?_
    refine seqU rfl rfl ?_
    refine seqU rfl rfl ?_
    refine seqQ rfl rfl (yPickT (v := .bool _) rfl rfl rfl) ?_
    refine seqNil ?_
    refine hF3 _ _ ?_; clear hF3
    refine wpT rfl ?_
    refine wpSeq fun F5 hF5 => ?_
    refine wpRegion ?_
    refine seqQ rfl rfl (yAssign (v := .bool _) rfl rfl) ?_
    refine seqNil ?_
    refine hF5 _ _ ?_; clear hF5
    refine wpRet (fin1 (v := .bool _) rfl rfl ?_)
    exact ⟨by rw [decide_eq_false (fun hv => by have h1 := hv.1; have h2 := hv.2.1; have h3 := hv.2.2.1; omega)], Ext.refl _⟩
  refine seqQ rfl rfl (yMove (v := .int _ _) rfl rfl) ?_
  refine seqQ rfl rfl (yLss rfl rfl rfl) ?_
  refine seqQ rfl rfl (yPickF (v := .bool _) rfl rfl rfl) ?_
  first | refine seqG rfl rfl rfl rfl (fun h20 => ?_) (fun h20 => ?_) | refine seqGB rfl rfl rfl rfl (fun h20 => ?_) (fun h20 => ?_)
  · skip
    refine seqU rfl rfl ?_
    refine seqU rfl rfl ?_
    refine seqU rfl rfl ?_
    refine seqQ rfl rfl (yPickT (v := .bool _) rfl rfl rfl) ?_
    refine seqQ rfl rfl (yMove (v := .bool true) rfl rfl) ?_
    refine seqU rfl rfl ?_
    refine seqU rfl rfl ?_
    refine seqU rfl rfl ?_
    refine seqQ rfl rfl (yPickT (v := .bool _) rfl rfl rfl) ?_
    refine seqNil ?_
    refine hF3 _ _ ?_; clear hF3
    refine wpT rfl ?_
    refine wpSeq fun F6 hF6 => ?_
    refine wpRegion ?_
    refine seqQ rfl rfl (yAssign (v := .bool _) rfl rfl) ?_
    refine seqNil ?_
    refine hF6 _ _ ?_; clear hF6
    refine wpRet (fin1 (v := .bool _) rfl rfl ?_)
    exact ⟨by rw [decide_eq_false (fun hv => by have h1 := hv.1; have h2 := hv.2.1; have h3 := hv.2.2.1; omega)], Ext.refl _⟩
  refine seqQ rfl rfl (yMove (v := .int _ _) rfl rfl) ?_
  refine seqQ rfl rfl (yMove (v := .int _ _) rfl rfl) ?_
  refine seqQ rfl rfl (yGeq rfl rfl rfl) ?_
  refine seqQ rfl rfl (yPickF (v := .bool _) rfl rfl rfl) ?_
  first | refine seqG rfl rfl rfl rfl (fun h25 => ?_) (fun h25 => ?_) | refine seqGB rfl rfl rfl rfl (fun h25 => ?_) (fun h25 => ?_)
  · skip
    refine seqU rfl rfl ?_
    refine seqU rfl rfl ?_
    refine seqU rfl rfl ?_
    refine seqQ rfl rfl (yPickT (v := .bool _) rfl rfl rfl) ?_
    refine seqNil ?_
    refine hF3 _ _ ?_; clear hF3
    refine wpT rfl ?_
    refine wpSeq fun F7 hF7 => ?_
    refine wpRegion ?_
    refine seqQ rfl rfl (yAssign (v := .bool _) rfl rfl) ?_
    refine seqNil ?_
    refine hF7 _ _ ?_; clear hF7
    refine wpRet (fin1 (v := .bool _) rfl rfl ?_)
    exact ⟨by rw [decide_eq_false (fun hv => by have h1 := hv.1; have h2 := hv.2.1; have h3 := hv.2.2.1; omega)], Ext.refl _⟩
  refine seqQ rfl rfl (yMove (v := .slice _ _ _) rfl rfl) ?_
  refine seqQ rfl rfl (yLen rfl Try.underlying35 rfl) ?_
  refine seqQ rfl rfl (yGtr rfl rfl rfl) ?_
  refine seqQ rfl rfl (yPickF (v := .bool _) rfl rfl rfl) ?_
  refine seqNil ?_
  refine hF3 _ _ ?_; clear hF3
  -- if t29
  refine wpIf rfl (fun hlen => ?_) (fun hlen => ?_)
  · skip
    refine wpSeq fun F8 hF8 => ?_
    refine wpRegion ?_
    refine seqQ rfl rfl (yAssign (v := .bool _) rfl rfl) ?_
    refine seqNil ?_
    refine hF8 _ _ ?_; clear hF8
    -- ret
    refine wpRet (fin1 (v := .bool _) rfl rfl ?_)
    exact ⟨by rw [decide_eq_false (fun hv => by have h3 := hv.2.2.1; omega)], Ext.refl _⟩
  · skip
    refine wpSkip ?_
    refine hF2 _ _ ?_; clear hF2
    refine wpSeq fun F9 hF9 => ?_
    refine wpRegion ?_
    refine seqQ rfl rfl (yMove (v := .int _ _) rfl rfl) ?_
    -- e slot 31: makeSlice T44 t30 t30
    refine seqE rfl rfl (stepMake (c := eInt) (z := 0) rfl Try.underlying44 elem_eInt rfl (by omega) rfl rfl (Int.toNat_of_nonneg (by omega)).symm (by omega) ?_)
    intro g H1 hx1 hg1 hown
    obtain ⟨r, rfl⟩ := Int.eq_ofNat_of_zero_le (show 0 ≤ role by omega)
    have hgood : (1 ≤ roles ∧ roles ≤ 6) ∧ (0 ≤ (r : Int) ∧ (r : Int) < roles) ∧ (l.map EH.ent).length ≤ 1000 := by omega
    refine seqQ rfl rfl (yAssign (v := .slice _ _ _) rfl rfl) ?_
    refine seqNil ?_
    refine hF9 _ _ ?_; clear hF9
    refine wpSeq fun F10 hF10 => ?_
    refine wpSeq fun F11 hF11 => ?_
    refine wpRegion ?_
    refine seqQ rfl rfl (yMove (v := .slice _ _ _) rfl rfl) ?_
    refine seqQ rfl rfl (yLen rfl Try.underlying35 rfl) ?_
    refine seqQ rfl rfl (yMove (v := .int _ _) rfl rfl) ?_
    refine seqNil ?_
    refine hF11 _ _ ?_; clear hF11
    -- loop
    refine wpBlock ?_
    refine wpLoopS [6, 7, 8, 9, 34, 35, 36, 37, 38, 39, 40, 41, 42, 43, 44, 45, 46, 47, 48, 49, 50, 51, 52, 53, 54, 55, 56, 57, 58, 59, 60, 61, 62, 63, 64, 65, 66, 67, 68, 69, 70, 71, 72, 73, 74, 75, 76, 77] (fun x : Nat × Option Addr × Nat × List Int => [(34, .int .i64 x.1), (7, .slice x.2.1 x.2.2.2.length x.2.2.1)]) (fun x H' => x.1 ≤ l.length ∧ Ext H H' ∧ Rd eInt H' x.2.1 x.2.2.2 ∧ x.2.2.2.length ≤ 100000 ∧ (x.1 = 0 → x.2.2.2 = List.replicate roles.toNat 0) ∧ (0 < x.1 → x.2.2.2 = ((l.map EH.ent).getD (x.1 - 1) ent0).clk) ∧ ∀ j, j < x.1 → EntOk (l.map EH.ent) r roles j) (fun x => l.length - x.1) (0, some ⟨g, 0, none⟩, roles.toNat, List.replicate roles.toNat 0) ⟨rfl, by simp; rfl, trivial⟩ ⟨Nat.zero_le _, hx1, (Own.rd hown).2, by simp; omega, fun _ => rfl, fun h => absurd h (by simp), fun j h => absurd h (by simp)⟩ ?_
    rintro ⟨k, LA, lc, last⟩ J Hk ⟨hk, hE, hla, hls, hl0, hl1, hok⟩
    dsimp only at hk hla hls hl0 hl1 hok
    refine wpSeq fun F12 hF12 => ?_
    refine wpRegion ?_
    refine seqQ rfl rfl (yLss rfl rfl rfl) ?_
    refine seqNil ?_
    refine hF12 _ _ ?_; clear hF12
    refine wpSeq fun F13 hF13 => ?_
    -- if t35
    refine wpIf rfl (fun hlt => ?_) (fun hlt => ?_)
    · skip
      have hkl : k < l.length := by omega
      have hgk := getD_ent l hkl
      obtain ⟨p, rfl, hp⟩ := (h.1.ext hE).at hkl
      obtain ⟨-, hci⟩ := h.2 _ (List.getElem_mem hkl)
      obtain ⟨-, hcs⟩ := hs.2 _ (List.getElem_mem hkl)
      generalize hx : l[k] = x at *
      refine wpSkip ?_
      refine hF13 _ _ ?_; clear hF13
      refine wpSeq fun F14 hF14 => ?_
      refine wpBlock ?_
      refine wpSeq fun F15 hF15 => ?_
      refine wpRegion ?_
      refine seqQ rfl rfl (yMove (v := .int _ _) rfl rfl) ?_
      refine seqQ rfl rfl (yIdx rfl Try.underlying35 Try.sizeOf72 rfl rfl rfl hkl) ?_
      refine seqQ rfl rfl (yLoadC (cs := eEH.F x) rfl Try.underlying72 rfl Try.sizeOf72 rfl hp) ?_
      refine seqN rfl rfl (nAlloc rfl Try.zeroValue72 rfl) (fun g9 H9 hx9 hB9 hg9 hl9 => ?_)
      refine seqQ rfl rfl (yAssign (v := .int _ _) rfl rfl) ?_
      -- e slot None: store T72 t9 t38
      refine seqE0 rfl rfl (stepStoreB rfl (by kernel_rfl) rfl rfl rfl hB9 rfl ?_)
      intro H2 h9 hK2
      have hE2 : Ext H H2 := (hE.trans hx9).mine hK2 (by have := hE.size; simp; omega)
      have hla2 : Rd eInt H2 LA last := hla.ext ((Ext.refl _ |>.trans hx9).mine hK2 (by simp; omega))
      clear hK2 hx9 hB9
      refine seqNil ?_
      refine hF15 _ _ ?_; clear hF15
      refine wpSeq fun F16 hF16 => ?_
      refine wpSeq fun F17 hF17 => ?_
      refine wpRegion ?_
      refine seqQ rfl rfl (yFieldAddr rfl Try.underlying72 rfl Try.sizeOf26 rfl rfl) ?_
      refine seqQ rfl rfl (yLoadC (cs := evC x.ev x.VA x.vc) rfl Try.underlying26 rfl Try.sizeOf26 rfl (fun j u hu => h9.cell (ev_sub hu))) ?_
      refine seqQ rfl rfl (yMove (v := .int _ _) rfl rfl) ?_
      refine seqQ rfl rfl (yMove (v := .int _ _) rfl rfl) ?_
      -- e slot 43: call F35<farandole/log.stands> t40 t41 t42
      refine seqE rfl rfl (stepCall rfl Try.call35 rfl ?_)
      refine (stands_c x.ev x.VA x.vc r roles H2).mono ?_
      rintro v H3 ⟨rfl, x3⟩
      replace h9 := h9.ext x3
      replace hE2 := hE2.trans x3
      replace hla2 := hla2.ext x3
      have hbad : ¬ EntOk (l.map EH.ent) r roles k → ¬ ValidLog (l.map EH.ent) r roles := fun hb hv => hb (hv.2.2.2 k (by rw [hml]; exact hkl))
      have hbad' : (standsE x.ev r roles → okC x.clk = true → (x.clk.length : Int) = roles → x.clk.getD r 0 = k + 1 → ¬ (0 < k → leB ((l.map EH.ent).getD (k - 1) ent0).clk x.clk = true)) → ¬ ValidLog (l.map EH.ent) r roles := fun hb => hbad fun he => by
        unfold EntOk at he
        rw [hgk] at he
        exact hb he.1 he.2.1 he.2.2.1 he.2.2.2.1 he.2.2.2.2
      refine seqQ rfl rfl (yNot rfl rfl) ?_
      -- guard t45
      refine seqGB rfl rfl rfl rfl (fun h1 => ?_) (fun h1 => ?_)
      · skip
        refine seqU rfl rfl ?_
        refine seqU rfl rfl ?_
        refine seqU rfl rfl ?_
        refine seqU rfl rfl ?_
        refine seqQ rfl rfl (yPickT (v := .bool _) rfl rfl rfl) ?_
        refine seqQ rfl rfl (yMove (v := .bool true) rfl rfl) ?_
        refine seqU rfl rfl ?_
        refine seqU rfl rfl ?_
        refine seqU rfl rfl ?_
        refine seqU rfl rfl ?_
        refine seqU rfl rfl ?_
        refine seqQ rfl rfl (yPickT (v := .bool _) rfl rfl rfl) ?_
        refine seqQ rfl rfl (yMove (v := .bool true) rfl rfl) ?_
        refine seqU rfl rfl ?_
        refine seqU rfl rfl ?_
        refine seqU rfl rfl ?_
        refine seqU rfl rfl ?_
        refine seqU rfl rfl ?_
        refine seqU rfl rfl ?_
        refine seqU rfl rfl ?_
        refine seqU rfl rfl ?_
        refine seqQ rfl rfl (yPickT (v := .bool _) rfl rfl rfl) ?_
        refine seqQ rfl rfl (yMove (v := .bool true) rfl rfl) ?_
        refine seqU rfl rfl ?_
        refine seqU rfl rfl ?_
        refine seqU rfl rfl ?_
        refine seqU rfl rfl ?_
        refine seqU rfl rfl ?_
        refine seqQ rfl rfl (yPickT (v := .bool _) rfl rfl rfl) ?_
        refine seqNil ?_
        refine hF17 _ _ ?_; clear hF17
        -- if t74
        refine wpT rfl ?_
        refine wpSeq fun F18 hF18 => ?_
        refine wpRegion ?_
        refine seqQ rfl rfl (yAssign (v := .bool _) rfl rfl) ?_
        refine seqNil ?_
        refine hF18 _ _ ?_; clear hF18
        -- ret
        refine wpRet (fin1 (v := .bool _) rfl rfl ?_)
        exact ⟨by rw [decide_eq_false (hbad' fun e => by simp [e] at h1)], hE2⟩
      · skip
        have h1 : standsE x.ev r roles := by simpa using h1
        refine seqQ rfl rfl (yFieldAddr rfl Try.underlying72 rfl Try.sizeOf44 rfl rfl) ?_
        refine seqQ rfl rfl (yLoad rfl Try.underlying44 rfl rfl (h9.cell rfl)) ?_
        -- e slot 48: call F45<farandole/vclock.Valid> t47
        refine seqE rfl rfl (stepCall rfl Try.call45 rfl ?_)
        refine (valid_c x.CA x.cc x.clk H3 (hci.ext hE2) (by omega)).mono ?_
        rintro v Hz ⟨rfl, e⟩
        obtain rfl := e.symm
        clear e
        refine seqQ rfl rfl (yNot rfl rfl) ?_
        refine seqQ rfl rfl (yPickF (v := .bool _) rfl rfl rfl) ?_
        -- guard t51
        refine seqGB rfl rfl rfl rfl (fun h2 => ?_) (fun h2 => ?_)
        · skip
          refine seqU rfl rfl ?_
          refine seqU rfl rfl ?_
          refine seqU rfl rfl ?_
          refine seqU rfl rfl ?_
          refine seqU rfl rfl ?_
          refine seqQ rfl rfl (yPickT (v := .bool _) rfl rfl rfl) ?_
          refine seqQ rfl rfl (yMove (v := .bool true) rfl rfl) ?_
          refine seqU rfl rfl ?_
          refine seqU rfl rfl ?_
          refine seqU rfl rfl ?_
          refine seqU rfl rfl ?_
          refine seqU rfl rfl ?_
          refine seqU rfl rfl ?_
          refine seqU rfl rfl ?_
          refine seqU rfl rfl ?_
          refine seqQ rfl rfl (yPickT (v := .bool _) rfl rfl rfl) ?_
          refine seqQ rfl rfl (yMove (v := .bool true) rfl rfl) ?_
          refine seqU rfl rfl ?_
          refine seqU rfl rfl ?_
          refine seqU rfl rfl ?_
          refine seqU rfl rfl ?_
          refine seqU rfl rfl ?_
          refine seqQ rfl rfl (yPickT (v := .bool _) rfl rfl rfl) ?_
          refine seqNil ?_
          refine hF17 _ _ ?_; clear hF17
          -- if t74
          refine wpT rfl ?_
          refine wpSeq fun F19 hF19 => ?_
          refine wpRegion ?_
          refine seqQ rfl rfl (yAssign (v := .bool _) rfl rfl) ?_
          refine seqNil ?_
          refine hF19 _ _ ?_; clear hF19
          -- ret
          refine wpRet (fin1 (v := .bool _) rfl rfl ?_)
          exact ⟨by rw [decide_eq_false (hbad' fun _ e => by simp [e] at h2)], hE2⟩
        · skip
          have h2 : okC x.clk = true := by simpa using h2
          refine seqQ rfl rfl (yFieldAddr rfl Try.underlying72 rfl Try.sizeOf44 rfl rfl) ?_
          refine seqQ rfl rfl (yLoad rfl Try.underlying44 rfl rfl (h9.cell rfl)) ?_
          refine seqQ rfl rfl (yLen rfl Try.underlying44 rfl) ?_
          refine seqQ rfl rfl (yMove (v := .int _ _) rfl rfl) ?_
          refine seqQ rfl rfl (yNeq rfl rfl rfl) ?_
          refine seqQ rfl rfl (yPickF (v := .bool _) rfl rfl rfl) ?_
          -- guard t58
          refine seqGB rfl rfl rfl rfl (fun h3 => ?_) (fun h3 => ?_)
          · skip
            have h3 : ¬ (x.clk.length : Int) = roles := by simpa using h3
            refine seqU rfl rfl ?_
            refine seqU rfl rfl ?_
            refine seqU rfl rfl ?_
            refine seqU rfl rfl ?_
            refine seqU rfl rfl ?_
            refine seqU rfl rfl ?_
            refine seqU rfl rfl ?_
            refine seqU rfl rfl ?_
            refine seqQ rfl rfl (yPickT (v := .bool _) rfl rfl rfl) ?_
            refine seqQ rfl rfl (yMove (v := .bool true) rfl rfl) ?_
            refine seqU rfl rfl ?_
            refine seqU rfl rfl ?_
            refine seqU rfl rfl ?_
            refine seqU rfl rfl ?_
            refine seqU rfl rfl ?_
            refine seqQ rfl rfl (yPickT (v := .bool _) rfl rfl rfl) ?_
            refine seqNil ?_
            refine hF17 _ _ ?_; clear hF17
            -- if t74
            refine wpT rfl ?_
            refine wpSeq fun F20 hF20 => ?_
            refine wpRegion ?_
            refine seqQ rfl rfl (yAssign (v := .bool _) rfl rfl) ?_
            refine seqNil ?_
            refine hF20 _ _ ?_; clear hF20
            -- ret
            refine wpRet (fin1 (v := .bool _) rfl rfl ?_)
            exact ⟨by rw [decide_eq_false (hbad' fun _ _ e => absurd e h3)], hE2⟩
          · skip
            have h3 : (x.clk.length : Int) = roles := by simpa using h3
            have hr : r < x.clk.length := by omega
            have hrd := hci.ext hE2
            obtain ⟨pc, epc, hpc⟩ := hrd.at1 hr
            have hgr : x.clk.getD r 0 = x.clk[r] := by rw [List.getD_eq_getElem?_getD, List.getElem?_eq_getElem hr]; rfl
            refine seqQ rfl rfl (yFieldAddr rfl Try.underlying72 rfl Try.sizeOf44 rfl rfl) ?_
            refine seqQ rfl rfl (yLoad rfl Try.underlying44 rfl rfl (h9.cell rfl)) ?_
            refine seqQ rfl rfl (yMove (v := .int _ _) rfl rfl) ?_
            refine seqQ rfl rfl (yIdxP1 rfl Try.underlying44 Try.sizeOf3 rfl rfl epc rfl hr) ?_
            refine seqQ rfl rfl (yLoad rfl Try.underlying3 rfl rfl hpc) ?_
            refine seqQ rfl rfl (yMove (v := .int _ _) rfl rfl) ?_
            refine seqQ rfl rfl (yAdd rfl rfl rfl (by unfold In64; omega)) ?_
            refine seqQ rfl rfl (yNeq rfl rfl rfl) ?_
            refine seqQ rfl rfl (yPickF (v := .bool _) rfl rfl rfl) ?_
            -- guard t68
            refine seqGB rfl rfl rfl rfl (fun h4 => ?_) (fun h4 => ?_)
            · skip
              refine seqU rfl rfl ?_
              refine seqU rfl rfl ?_
              refine seqU rfl rfl ?_
              refine seqU rfl rfl ?_
              refine seqU rfl rfl ?_
              refine seqQ rfl rfl (yPickT (v := .bool _) rfl rfl rfl) ?_
              refine seqNil ?_
              refine hF17 _ _ ?_; clear hF17
              -- if t74
              refine wpT rfl ?_
              refine wpSeq fun F21 hF21 => ?_
              refine wpRegion ?_
              refine seqQ rfl rfl (yAssign (v := .bool _) rfl rfl) ?_
              refine seqNil ?_
              refine hF21 _ _ ?_; clear hF21
              -- ret
              refine wpRet (fin1 (v := .bool _) rfl rfl ?_)
              exact ⟨by rw [decide_eq_false (hbad' fun _ _ _ e => by rw [hgr] at e; simp [e] at h4)], hE2⟩
            · skip
              have h4 : x.clk[r] = k + 1 := by simpa using h4
              refine seqQ rfl rfl (yMove (v := .slice _ _ _) rfl rfl) ?_
              refine seqQ rfl rfl (yFieldAddr rfl Try.underlying72 rfl Try.sizeOf44 rfl rfl) ?_
              refine seqQ rfl rfl (yLoad rfl Try.underlying44 rfl rfl (h9.cell rfl)) ?_
              -- e slot 72: call F29<farandole/vclock.Before> t69 t71
              refine seqE rfl rfl (stepCall rfl Try.call29 rfl ?_)
              refine (before_c LA x.CA lc x.cc last x.clk H3 hla2 hrd (by omega) (by omega)).mono ?_
              rintro v Hz ⟨rfl, e⟩
              obtain rfl := e.symm
              clear e
              have hbo := before_ok (l := l.map EH.ent) (role := r) (roles := roles) (k := k) (last := last) hl0 hl1 (fun h0 => hok (k - 1) (by omega)) (by rw [hgk]; exact h2) (by rw [hgk]; exact h3) (by rw [hgk]; show x.clk.getD r 0 = _; rw [hgr]; exact h4)
              rw [hgk] at hbo
              replace hbo : beforeB last x.clk = true ↔ (0 < k → leB ((l.map EH.ent).getD (k - 1) ent0).clk x.clk = true) := hbo
              refine seqQ rfl rfl (yNot rfl rfl) ?_
              refine seqQ rfl rfl (yPickF (v := .bool _) rfl rfl rfl) ?_
              refine seqNil ?_
              refine hF17 _ _ ?_; clear hF17
              -- if t74
              refine wpCond rfl (fun h5 => ?_) (fun h5 => ?_)
              · skip
                have h5 : beforeB last x.clk = false := by simpa using h5
                refine wpSeq fun F22 hF22 => ?_
                refine wpRegion ?_
                refine seqQ rfl rfl (yAssign (v := .bool _) rfl rfl) ?_
                refine seqNil ?_
                refine hF22 _ _ ?_; clear hF22
                -- ret
                refine wpRet (fin1 (v := .bool _) rfl rfl ?_)
                exact ⟨by rw [decide_eq_false (hbad' fun _ _ _ _ e => by rw [hbo.2 e] at h5; cases h5)], hE2⟩
              · skip
                have h5 : beforeB last x.clk = true := by simpa using h5
                refine wpSkip ?_
                refine hF16 _ _ ?_; clear hF16
                refine wpRegion ?_
                refine seqQ rfl rfl (yFieldAddr rfl Try.underlying72 rfl Try.sizeOf44 rfl rfl) ?_
                refine seqQ rfl rfl (yLoad rfl Try.underlying44 rfl rfl (h9.cell rfl)) ?_
                refine seqQ rfl rfl (yAssign (v := .slice _ _ _) rfl rfl) ?_
                refine seqNil ?_
                refine hF14 _ _ ?_; clear hF14
                refine wpRegion ?_
                refine seqQ rfl rfl (yAdd rfl rfl rfl (by unfold In64; omega)) ?_
                refine seqQ rfl rfl (yMove (v := .int _ _) rfl rfl) ?_
                refine seqNil ?_
                -- end loop
                exact loopEnd (k + 1, x.CA, x.cc, x.clk) (by repeat (first | (with_reducible exact Agree.refl _ _) | refine Agree.upd ?_ rfl | refine Agree.over ?_ rfl)) (by dsimp only; omega) ⟨rfl, rfl, trivial⟩ ⟨hkl, hE2, hrd, by dsimp only; omega, fun h => absurd h (by simp), fun _ => by show x.clk = ((l.map EH.ent).getD (k + 1 - 1) ent0).clk; rw [Nat.add_sub_cancel, hgk]; rfl, fun j hj => by
                  by_cases e : j = k
                  · subst e
                    unfold EntOk
                    rw [hgk]
                    exact ⟨h1, h2, h3, by show x.clk.getD r 0 = _; rw [hgr]; exact h4, hbo.1 h5⟩
                  · exact hok j (by omega)⟩
    · skip
      have hk : k = l.length := by omega
      subst hk
      refine wpExit ?_
      refine hF10 _ _ ?_; clear hF10
      refine wpSeq fun F23 hF23 => ?_
      refine wpRegion ?_
      refine seqQ rfl rfl (yAssign (v := .bool _) rfl rfl) ?_
      refine seqNil ?_
      refine hF23 _ _ ?_; clear hF23
      -- ret
      refine wpRet (fin1 (v := .bool _) rfl rfl ?_)
      exact ⟨by rw [decide_eq_true ⟨hgood.1, hgood.2.1, hgood.2.2, fun j hj => hok j (by omega)⟩], hE⟩
end Go.Proofs.Ytbanngdijmglbaa
