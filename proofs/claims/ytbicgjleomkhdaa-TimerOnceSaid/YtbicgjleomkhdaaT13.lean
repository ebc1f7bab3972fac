/- TimerOnce: in any sequence of calls with advancing time, a timer expires exactly once, when its time has come, unless it was cancelled or set again. Conditions: none beyond the statement's. -/
import Derived.Test.YtbicgjleomkhdaaT12
namespace Go.Proofs.Ytbicgjleomkhdaa
open Go.ChangeShapes Go.WideShapes Go.ChangeAt Go.RowKit Go.Deep

def gD (d : List Int) (k : Nat) : Int := d.getD k 0
set_option maxRecDepth 100000 in
theorem gD_at {d : List Int} {k : Nat} (h : k < d.length) : gD d k = d[k] := by unfold gD; rw [List.getD_eq_getElem?_getD, List.getElem?_eq_getElem h]; rfl
set_option maxRecDepth 100000 in
theorem gD_set {d : List Int} {k j : Nat} {v : Int} (h : k < d.length) : gD (d.set k v) j = if j = k then v else gD d j := by
  unfold gD
  rw [List.getD_eq_getElem?_getD, List.getD_eq_getElem?_getD, List.getElem?_set]
  by_cases e : k = j
  · subst e
    rw [if_pos rfl, if_pos rfl, if_pos h]
    rfl
  · rw [if_neg e, if_neg (fun e' => e e'.symm)]
/-- The table holds the timers that are noted. -/
structure Due (t : List Tm) (d : List Int) : Prop where
  len : d.length = 16
  ok : ValidT t
  note : ∀ x ∈ t, ∃ k : Nat, k < 16 ∧ x.2 = (k : Int) ∧ gD d k = x.1 + 1
  has : ∀ k : Nat, k < 16 → gD d k = 0 ∨ (gD d k - 1, (k : Int)) ∈ t
set_option maxRecDepth 100000 in
theorem Due.wout {t : List Tm} {d : List Int} (h : Due t d) {k : Nat} (hk : k < 16) : Due (woutT t k) (d.set k 0) := by
  have hl : k < d.length := by rw [h.len]; exact hk
  refine ⟨by rw [List.length_set]; exact h.len, h.ok.sub (woutT_sub t k), fun x hx => ?_, fun j hj => ?_⟩
  · obtain ⟨hx, hn⟩ := mem_wout.1 hx
    obtain ⟨j, hj, e1, e2⟩ := h.note x hx
    refine ⟨j, hj, e1, ?_⟩
    rw [gD_set hl, if_neg (fun e => hn (by rw [e1, e]))]
    exact e2
  · rw [gD_set hl]
    by_cases e : j = k
    · exact .inl (if_pos e)
    · rw [if_neg e]
      rcases h.has j hj with h0 | hm
      · exact .inl h0
      · exact .inr (mem_wout.2 ⟨hm, fun e' => e (by have e' : (j : Int) = (k : Int) := e'; omega)⟩)
set_option maxRecDepth 100000 in
theorem Due.set {t : List Tm} {d : List Int} (h : Due t d) {k : Nat} (hk : k < 16) {a : Int} (ha : okT (a, (k : Int))) (hf : t.length < 300) : Due (insT (woutT t k) (a, (k : Int))) (d.set k (a + 1)) := by
  have hw := h.wout hk
  have hl : k < d.length := by rw [h.len]; exact hk
  have hwl := woutT_len t (k : Int)
  refine ⟨by rw [List.length_set]; exact h.len, insT_valid hw.ok ha (fun y hy => (mem_wout.1 hy).2) (by omega), fun x hx => ?_, fun j hj => ?_⟩
  · rcases mem_insT.1 hx with rfl | hx
    · exact ⟨k, hk, rfl, by rw [gD_set hl, if_pos rfl]⟩
    · obtain ⟨hx, hn⟩ := mem_wout.1 hx
      obtain ⟨j, hj, e1, e2⟩ := h.note x hx
      refine ⟨j, hj, e1, ?_⟩
      rw [gD_set hl, if_neg (fun e => hn (by rw [e1, e]))]
      exact e2
  · rw [gD_set hl]
    by_cases e : j = k
    · subst e
      refine .inr (mem_insT.2 (.inl ?_))
      rw [if_pos rfl, Int.add_sub_cancel]
    · rw [if_neg e]
      rcases h.has j hj with h0 | hm
      · exact .inl h0
      · exact .inr (mem_insT.2 (.inr (mem_wout.2 ⟨hm, fun e' => e (by have e' : (j : Int) = (k : Int) := e'; omega)⟩)))
set_option maxRecDepth 100000 in
theorem Due.tail {x : Tm} {t : List Tm} {d : List Int} (h : Due (x :: t) d) {k : Nat} (hk : k < 16) (e : x.2 = (k : Int)) : Due t (d.set k 0) := by
  have hw := h.wout hk
  have hi := (List.pairwise_cons.1 h.ok.ids).1
  have e2 : woutT (x :: t) k = t := by
    unfold woutT
    rw [List.filter_cons_of_neg (by simp [e])]
    exact List.filter_eq_self.2 fun y hy => by
      have := hi y hy
      rw [e] at this
      simpa using fun e' => this e'.symm
  rwa [e2] at hw
set_option maxRecDepth 100000 in
theorem Due.cancel {t : List Tm} {d : List Int} (h : Due t d) {k : Nat} (hk : k < 16) : (cancelT t k).1 = 0 ↔ 0 < gD d k := by
  constructor
  · intro hc
    have hlen : ¬ (woutT t k).length = t.length := fun e => by
      rw [cancelT_none h.ok e] at hc
      exact absurd hc (by decide)
    have : ¬ ∀ (i : Nat) (hi : i < t.length), t[i].2 ≠ (k : Int) := fun hn => hlen (by rw [woutT_all hn])
    have hex : ∃ (i : Nat) (hi : i < t.length), t[i].2 = (k : Int) := Classical.byContradiction fun hne => this fun i hi he => hne ⟨i, hi, he⟩
    obtain ⟨i, hi, he⟩ := hex
    obtain ⟨j, hj, e1, e2⟩ := h.note _ (List.getElem_mem hi)
    have hjk : j = k := by omega
    subst hjk
    have := h.ok.ok _ (List.getElem_mem hi)
    unfold okT at this
    omega
  · intro hc
    rcases h.has k hk with h0 | hm
    · omega
    · have hlen : ¬ (woutT t k).length = t.length := fun e => by
        have := (woutT_sub t k).eq_of_length e
        rw [← this] at hm
        exact (mem_wout.1 hm).2 rfl
      rw [cancelT_ok h.ok hlen]
set_option maxRecDepth 100000 in
theorem wout_le (t : List Tm) (id : Int) {n : Nat} (h : t.length ≤ n) : (woutT t id).length ≤ n := Nat.le_trans (woutT_len t id) h
set_option maxRecDepth 100000 in
/-- What is left is due later. -/
theorem exp_later {t : List Tm} {now : Int} (h : ValidT t) : ∀ x ∈ (expT t now).1, now < x.1 := by
  rw [expT_ok h]
  intro x hx
  have h2 := (exp_filter (now := now) h.srt).2
  dsimp only at hx
  rw [← h2, List.mem_filter] at hx
  have := hx.2
  simp at this
  exact this
set_option maxRecDepth 100000 in
theorem exp_drop {t : List Tm} {now : Int} (h : ValidT t) : (expT t now).1 = t.drop (expT t now).2.length ∧ ∀ (k : Nat) (hk : k < (expT t now).2.length), ∃ hl : k < t.length, (expT t now).2[k] = t[k].2 ∧ t[k].1 ≤ now := by
  have e := expT_ok (now := now) h
  have e2 : (expT t now).2 = (t.takeWhile fun x => decide (x.1 ≤ now)).map (·.2) := by rw [e]
  have hlen : (expT t now).2.length = (t.takeWhile fun x => decide (x.1 ≤ now)).length := by rw [e2, List.length_map]
  constructor
  · rw [hlen]
    have : t = t.takeWhile (fun x => decide (x.1 ≤ now)) ++ t.dropWhile (fun x => decide (x.1 ≤ now)) := List.takeWhile_append_dropWhile.symm
    rw [e]
    dsimp only
    conv => rhs; rw [this]
    rw [List.drop_left']
    rw [← this]
  · intro k hk
    obtain ⟨hl, ek⟩ := exp_at h hk
    refine ⟨hl, ek, ?_⟩
    have hk' : k < (t.takeWhile fun x => decide (x.1 ≤ now)).length := by rw [← hlen]; exact hk
    have hp : (t.takeWhile fun x => decide (x.1 ≤ now)) <+: t := List.takeWhile_prefix _
    have e3 := List.IsPrefix.getElem hp hk'
    have := mem_tw (List.getElem_mem hk')
    rw [e3] at this
    exact of_decide_eq_true this
abbrev St := Int × Int × Int
def eSt : El St := ⟨fun x => [.int .i64 x.1, .int .i64 x.2.1, .int .i64 x.2.2], 3, by omega, fun _ => rfl, fun x u hu => by simp at hu; rcases hu with rfl | rfl | rfl <;> rfl⟩
set_option maxRecDepth 100000 in
theorem opn_st (W : World) : Opn Try.prog W 55 3 eSt.F (fun x : St => In64 x.1 ∧ In64 x.2.1 ∧ In64 x.2.2) :=
  (opn_struct Try.underlying55 (by kernel_rfl) (opnF_cons rfl (opn_int Try.underlying3 (by kernel_rfl)) (opnF_cons rfl (opn_int Try.underlying3 (by kernel_rfl)) (opnF_cons rfl (opn_int Try.underlying3 (by kernel_rfl)) (opnF_nil rfl))))).map
    (fun a => ((a.1, a.2.1, a.2.2.1) : St)) (fun _ => rfl) (fun _ h => ⟨h.1, h.2.1, h.2.2.1⟩)
set_option maxRecDepth 100000 in
theorem opn_sts (W : World) : Opn Try.prog W 52 1 (fun a : Option Addr × Nat × List St => [.slice a.1 a.2.2.length a.2.1]) (fun a => Rd eSt W.heap a.1 a.2.2 ∧ (∀ x ∈ a.2.2, In64 x.1 ∧ In64 x.2.1 ∧ In64 x.2.2) ∧ a.2.2.length ≤ a.2.1 ∧ a.2.1 ≤ maxLen) :=
  opn_slice (c := eSt) Try.underlying52 (by kernel_rfl) (opn_st W)
set_option maxRecDepth 100000 in
theorem due_nil : Due [] (List.replicate 16 0) := ⟨by simp, valid_nil, fun x hx => (by cases hx), fun k hk => .inl (by unfold gD; rw [List.getD_eq_getElem?_getD, List.getElem?_replicate, if_pos hk]; rfl)⟩
set_option maxRecDepth 100000 in
theorem Own.cap_le {α : Type} {c : El α} {e : TypeId} {H : Heap} {base n cap : Nat} {A : Option Addr} {l : List α} (h : Own c e H base (.slice A n cap) l) : n ≤ cap := by
  obtain ⟨_, _, e, hle, -⟩ := h.form
  injection e with _ e1 e2
  rw [e1, e2]
  exact hle
set_option maxRecDepth 100000 in
theorem cancel_len (t : List Tm) (id : Int) : (cancelT t id).2.length ≤ t.length := by
  by_cases h : (cancelT t id).1 = 0
  · rw [cancel_ok h]
    exact woutT_len t id
  · have e : (cancelT t id).2 = [] := by
      by_cases hv : ValidT t
      · by_cases hf : (woutT t id).length = t.length
        · rw [cancelT_none hv hf]
        · rw [cancelT_ok hv hf] at h
          exact absurd rfl h
      · rw [cancelT_bad hv]
    rw [e]
    exact Nat.zero_le _
set_option maxRecDepth 100000 in
theorem once_walk (A : Option Addr) (ca : Nat) (l : List St) (H : Heap) (hA : Rd eSt H A l) (hl : l.length ≤ 9223372036854775807) :
    CallsH Try.prog 6 [.slice A l.length ca] H fun v H' => v = .bool true ∧ Ext H H' := by
  refine callsH_of Try.func6 rfl Try.ntmps6 (Nat.le_of_ble_eq_true rfl) ?_
  refine wpSeq fun F1 hF1 => ?_
  refine wpRegion ?_
  refine seqQ rfl rfl (yAssign (v := .bool _) rfl rfl) ?_
  refine seqNil ?_
  refine hF1 _ _ ?_; clear hF1
  refine wpSeq fun F2 hF2 => ?_
  refine wpSeq fun F3 hF3 => ?_
  refine wpRegion ?_
  -- e slot 16: call F8<farandole/farandolelaw49.awake> 
  refine seqE rfl rfl (stepCall rfl Try.call8 rfl ?_)
  refine (tmAwake_c _).mono ?_
  rintro v Ha ⟨rfl, xa⟩
  refine seqQ rfl rfl (yNot rfl rfl) ?_
  refine seqNil ?_
  refine hF3 _ _ ?_; clear hF3
  -- if t17
  refine wpF rfl ?_
  refine wpSkip ?_
  refine hF2 _ _ ?_; clear hF2
  refine wpSeq fun F4 hF4 => ?_
  refine wpSeq fun F5 hF5 => ?_
  refine wpRegion ?_
  refine seqQ rfl rfl (yMove (v := .slice _ _ _) rfl rfl) ?_
  refine seqQ rfl rfl (yLen rfl Try.underlying52 rfl) ?_
  refine seqQ rfl rfl (yGtr rfl rfl rfl) ?_
  refine seqNil ?_
  refine hF5 _ _ ?_; clear hF5
  -- if t20
  refine wpIf rfl (fun h40 => ?_) (fun h40 => ?_)
  · skip
    refine wpSeq fun F6 hF6 => ?_
    refine wpRegion ?_
    refine seqQ rfl rfl (yAssign (v := .bool _) rfl rfl) ?_
    refine seqNil ?_
    refine hF6 _ _ ?_; clear hF6
    -- ret
    refine wpRet (fin1 (v := .bool _) rfl rfl ?_)
    exact ⟨rfl, xa⟩
  · skip
    have hl : l.length ≤ 40 := by omega
    refine wpSkip ?_
    refine hF4 _ _ ?_; clear hF4
    refine wpSeq fun F7 hF7 => ?_
    refine wpRegion ?_
    refine seqQ rfl rfl (yAssign (v := .slice _ _ _) rfl rfl) ?_
    refine seqNil ?_
    refine hF7 _ _ ?_; clear hF7
    refine wpSeq fun F8 hF8 => ?_
    refine wpRegion ?_
    refine seqN rfl rfl (nAlloc rfl Try.zeroValue53 rfl) (fun g4 H4 hx4 hB4 hg4 hl4 => ?_)
    refine seqNil ?_
    refine hF8 _ _ ?_; clear hF8
    refine wpSeq fun F9 hF9 => ?_
    refine wpRegion ?_
    refine seqQ rfl rfl (yAssign (v := .int _ _) rfl rfl) ?_
    refine seqNil ?_
    refine hF9 _ _ ?_; clear hF9
    refine wpSeq fun F10 hF10 => ?_
    refine wpSeq fun F11 hF11 => ?_
    refine wpRegion ?_
    refine seqQ rfl rfl (yAssign (v := .int _ _) rfl rfl) ?_
    refine seqNil ?_
    refine hF11 _ _ ?_; clear hF11
    -- loop
    have hE0 := xa.trans hx4
    have g4H : H.size ≤ g4 := by have := xa.size; omega
    refine wpBlock ?_
    refine wpLoopS [2, 3, 5, 6, 7, 8, 9, 10, 11, 12, 13, 14, 15, 21, 22, 23, 24, 25, 26, 27, 28, 29, 30, 31, 32, 33, 34, 35, 36, 37, 38, 39, 40, 41, 42, 43, 44, 45, 46, 47, 48, 49, 50, 51, 52, 53, 54, 55, 56, 57, 58, 59, 60, 61, 62, 63, 64, 65, 66, 67, 68, 69, 70, 71, 72, 73, 74, 75, 76, 77, 78, 79, 80, 81, 82, 83, 84, 85, 86, 87, 88, 89, 90, 91, 92, 93, 94, 95, 96, 97, 98, 99, 100, 101, 102, 103, 104, 105, 106, 107, 108, 109, 110, 111, 112, 113, 114, 115, 116, 117, 118, 119, 120, 121, 122, 123, 124, 125, 126, 127, 128, 129, 130, 131, 132, 133, 134, 135, 136, 137, 138, 139, 140, 141, 142, 143, 144, 145, 146, 147, 148, 149, 150, 151, 152, 153, 154, 155, 156, 157, 158, 159, 160, 161, 162, 163, 164, 165, 166, 167] (fun x : Nat × Value × Int => [(6, .int .i64 x.1), (3, x.2.1), (5, .int .i64 x.2.2)]) (fun x H' => x.1 ≤ l.length ∧ Ext H H' ∧ H4.size ≤ H'.size ∧ 0 ≤ x.2.2 ∧ x.2.2 ≤ 1000 * x.1 ∧ ∃ (V : Option Addr) (c : Nat) (t : List Tm) (d : List Int), x.2.1 = .slice V t.length c ∧ Own eTm 58 H' H4.size (.slice V t.length c) t ∧ Blk H' g4 (d.map (Value.int .i64)) 53 ∧ Due t d ∧ t.length ≤ x.1) (fun x => l.length - x.1) (0, .slice none 0 0, 0) ⟨rfl, rfl, rfl, trivial⟩ ⟨Nat.zero_le _, hE0, Nat.le_refl _, by dsimp only; omega, by dsimp only; omega, none, 0, [], List.replicate 16 0, rfl, Own.nil _ _, hB4, due_nil, Nat.zero_le _⟩ ?_
    clear hE0 hx4 hB4 xa
    rintro ⟨i, v, now⟩ J Hi ⟨hi, hE, z4, n0, n1, V, c, t, d, ev, ow, hd, du, tl⟩
    dsimp only at hi n0 n1 ev tl
    subst ev
    refine wpSeq fun F12 hF12 => ?_
    refine wpSeq fun F13 hF13 => ?_
    refine wpRegion ?_
    refine seqQ rfl rfl (yMove (v := .int _ _) rfl rfl) ?_
    refine seqQ rfl rfl (yMove (v := .slice _ _ _) rfl rfl) ?_
    refine seqQ rfl rfl (yLen rfl Try.underlying52 rfl) ?_
    refine seqQ rfl rfl (yLss rfl rfl rfl) ?_
    refine seqNil ?_
    refine hF13 _ _ ?_; clear hF13
    -- if t24
    refine wpIf rfl (fun hlt => ?_) (fun hlt => ?_)
    · skip
      have hi : i < l.length := by dsimp only at hlt; omega
      obtain ⟨p, ep, hp⟩ := (hA.ext hE).at hi
      refine wpSkip ?_
      refine hF12 _ _ ?_; clear hF12
      refine wpSeq fun F14 hF14 => ?_
      refine wpBlock ?_
      refine wpSeq fun F15 hF15 => ?_
      refine wpRegion ?_
      refine seqQ rfl rfl (yMove (v := .slice _ _ _) rfl rfl) ?_
      refine seqQ rfl rfl (yMove (v := .int _ _) rfl rfl) ?_
      refine seqQ rfl rfl (yIdxP rfl Try.underlying52 Try.sizeOf55 rfl rfl ep rfl hi) ?_
      refine seqQ rfl rfl (yLoadC (cs := eSt.F l[i]) rfl Try.underlying55 rfl Try.sizeOf55 rfl hp) ?_
      refine seqN rfl rfl (nAlloc rfl Try.zeroValue55 rfl) (fun g7 H7 hx7 hB7 hg7 hl7 => ?_)
      -- e slot None: store T55 t7 t30
      refine seqE0 rfl rfl (stepStoreB rfl (by kernel_rfl) rfl rfl rfl hB7 rfl ?_)
      intro H1 h7 hK1
      have x1 : Ext Hi H1 := hx7.mine hK1 (by simp; omega)
      replace hE := hE.trans x1
      replace ow := ow.ext x1
      replace hd := hd.ext x1
      replace z4 := Nat.le_trans z4 x1.size
      clear hB7 hx7 hK1 x1 hp
      refine seqNil ?_
      refine hF15 _ _ ?_; clear hF15
      refine wpSeq fun F16 hF16 => ?_
      refine wpSeq fun F17 hF17 => ?_
      refine wpRegion ?_
      refine seqQ rfl rfl (yFieldAddr rfl Try.underlying55 rfl Try.sizeOf3 rfl rfl) ?_
      refine seqQ rfl rfl (yLoad rfl Try.underlying3 rfl rfl (h7.cell rfl)) ?_
      refine seqQ rfl rfl (yLss rfl rfl rfl) ?_
      first | refine seqG rfl rfl rfl rfl (fun h34 => ?_) (fun h34 => ?_) | refine seqGB rfl rfl rfl rfl (fun h34 => ?_) (fun h34 => ?_)
      · skip
        refine seqU rfl rfl ?_
        refine seqU rfl rfl ?_
        refine seqU rfl rfl ?_
        refine seqQ rfl rfl (yPickT (v := .bool _) rfl rfl rfl) ?_
        refine seqQ rfl rfl (yMove (v := .bool true) rfl rfl) ?_
        refine seqU rfl rfl ?_
        refine seqU rfl rfl ?_
        refine seqU rfl rfl ?_
        refine seqQ rfl rfl (yPickT (v := .bool _) rfl rfl rfl) ?_
        refine seqQ rfl rfl (yMove (v := .bool true) rfl rfl) ?_
        refine seqU rfl rfl ?_
        refine seqU rfl rfl ?_
        refine seqU rfl rfl ?_
        refine seqQ rfl rfl (yPickT (v := .bool _) rfl rfl rfl) ?_
        refine seqNil ?_
        refine hF17 _ _ ?_; clear hF17
        refine wpT rfl ?_
        refine wpSeq fun F18 hF18 => ?_
        refine wpRegion ?_
        refine seqQ rfl rfl (yAssign (v := .bool _) rfl rfl) ?_
        refine seqNil ?_
        refine hF18 _ _ ?_; clear hF18
        refine wpRet (fin1 (v := .bool _) rfl rfl ?_)
        exact ⟨rfl, hE⟩
      refine seqQ rfl rfl (yFieldAddr rfl Try.underlying55 rfl Try.sizeOf3 rfl rfl) ?_
      refine seqQ rfl rfl (yLoad rfl Try.underlying3 rfl rfl (h7.cell rfl)) ?_
      refine seqQ rfl rfl (yGtr rfl rfl rfl) ?_
      refine seqQ rfl rfl (yPickF (v := .bool _) rfl rfl rfl) ?_
      first | refine seqG rfl rfl rfl rfl (fun h39 => ?_) (fun h39 => ?_) | refine seqGB rfl rfl rfl rfl (fun h39 => ?_) (fun h39 => ?_)
      · skip
        refine seqU rfl rfl ?_
        refine seqU rfl rfl ?_
        refine seqU rfl rfl ?_
        refine seqQ rfl rfl (yPickT (v := .bool _) rfl rfl rfl) ?_
        refine seqQ rfl rfl (yMove (v := .bool true) rfl rfl) ?_
        refine seqU rfl rfl ?_
        refine seqU rfl rfl ?_
        refine seqU rfl rfl ?_
        refine seqQ rfl rfl (yPickT (v := .bool _) rfl rfl rfl) ?_
        refine seqNil ?_
        refine hF17 _ _ ?_; clear hF17
        refine wpT rfl ?_
        refine wpSeq fun F19 hF19 => ?_
        refine wpRegion ?_
        refine seqQ rfl rfl (yAssign (v := .bool _) rfl rfl) ?_
        refine seqNil ?_
        refine hF19 _ _ ?_; clear hF19
        refine wpRet (fin1 (v := .bool _) rfl rfl ?_)
        exact ⟨rfl, hE⟩
      refine seqQ rfl rfl (yFieldAddr rfl Try.underlying55 rfl Try.sizeOf3 rfl rfl) ?_
      refine seqQ rfl rfl (yLoad rfl Try.underlying3 rfl rfl (h7.cell rfl)) ?_
      refine seqQ rfl rfl (yLss rfl rfl rfl) ?_
      refine seqQ rfl rfl (yPickF (v := .bool _) rfl rfl rfl) ?_
      first | refine seqG rfl rfl rfl rfl (fun h44 => ?_) (fun h44 => ?_) | refine seqGB rfl rfl rfl rfl (fun h44 => ?_) (fun h44 => ?_)
      · skip
        refine seqU rfl rfl ?_
        refine seqU rfl rfl ?_
        refine seqU rfl rfl ?_
        refine seqQ rfl rfl (yPickT (v := .bool _) rfl rfl rfl) ?_
        refine seqNil ?_
        refine hF17 _ _ ?_; clear hF17
        refine wpT rfl ?_
        refine wpSeq fun F20 hF20 => ?_
        refine wpRegion ?_
        refine seqQ rfl rfl (yAssign (v := .bool _) rfl rfl) ?_
        refine seqNil ?_
        refine hF20 _ _ ?_; clear hF20
        refine wpRet (fin1 (v := .bool _) rfl rfl ?_)
        exact ⟨rfl, hE⟩
      refine seqQ rfl rfl (yFieldAddr rfl Try.underlying55 rfl Try.sizeOf3 rfl rfl) ?_
      refine seqQ rfl rfl (yLoad rfl Try.underlying3 rfl rfl (h7.cell rfl)) ?_
      refine seqQ rfl rfl (yGtr rfl rfl rfl) ?_
      refine seqQ rfl rfl (yPickF (v := .bool _) rfl rfl rfl) ?_
      refine seqNil ?_
      refine hF17 _ _ ?_; clear hF17
      -- if t48
      refine wpIf rfl (fun h48 => ?_) (fun h48 => ?_)
      · skip
        refine wpSeq fun F21 hF21 => ?_
        refine wpRegion ?_
        refine seqQ rfl rfl (yAssign (v := .bool _) rfl rfl) ?_
        refine seqNil ?_
        refine hF21 _ _ ?_; clear hF21
        -- ret
        refine wpRet (fin1 (v := .bool _) rfl rfl ?_)
        exact ⟨rfl, hE⟩
      · skip
        obtain ⟨k, hk, ek⟩ : ∃ k : Nat, k < 16 ∧ l[i].2.1 = (k : Int) := ⟨l[i].2.1.toNat, by omega, by omega⟩
        have hkd : k < d.length := by rw [du.len]; exact hk
        have hcell : (d.map (Value.int .i64))[k]? = some (.int .i64 (gD d k)) := by rw [List.getElem?_map, List.getElem?_eq_getElem hkd, gD_at hkd]; rfl
        have hlm : (d.map (Value.int .i64)).length = 16 := by rw [List.length_map, du.len]
        have g4l : g4 < H4.size := hl4
        have gd4 := hd.lt
        have n0' : 0 ≤ now := n0
        have hidx : eSt.F l[i] = [.int .i64 l[i].1, .int .i64 (k : Int), .int .i64 l[i].2.2] := by rw [← ek]; rfl
        rw [hidx] at h7
        refine wpSkip ?_
        refine hF16 _ _ ?_; clear hF16
        refine wpSeq fun F22 hF22 => ?_
        refine wpRegion ?_
        refine seqQ rfl rfl (yFieldAddr rfl Try.underlying55 rfl Try.sizeOf3 rfl rfl) ?_
        refine seqQ rfl rfl (yLoad rfl Try.underlying3 rfl rfl (h7.cell rfl)) ?_
        refine seqNil ?_
        refine hF22 _ _ ?_; clear hF22
        refine wpBlock ?_
        refine wpSeq fun F23 hF23 => ?_
        refine wpRegion ?_
        refine seqQ rfl rfl (yEql rfl rfl rfl) ?_
        refine seqQ rfl rfl (yAssign (v := .bool _) rfl rfl) ?_
        refine seqNil ?_
        refine hF23 _ _ ?_; clear hF23
        -- if t121
        refine wpIf rfl (fun hk0 => ?_) (fun hk0 => ?_)
        · skip
          refine wpSeq fun F24 hF24 => ?_
          refine wpRegion ?_
          refine seqQ rfl rfl (yMove (v := .slice _ _ _) rfl rfl) ?_
          refine seqQ rfl rfl (yFieldAddr rfl Try.underlying55 rfl Try.sizeOf3 rfl rfl) ?_
          refine seqQ rfl rfl (yLoad rfl Try.underlying3 rfl rfl (h7.cell rfl)) ?_
          refine seqQ rfl rfl (yMove (v := .int _ _) rfl rfl) ?_
          refine seqQ rfl rfl (yFieldAddr rfl Try.underlying55 rfl Try.sizeOf3 rfl rfl) ?_
          refine seqQ rfl rfl (yLoad rfl Try.underlying3 rfl rfl (h7.cell rfl)) ?_
          refine seqQ rfl rfl (yAdd rfl rfl rfl (by unfold In64; dsimp only; omega)) ?_
          -- e slot 131: call F19<farandole/timer.Set> t124 t126 t130
          refine seqE rfl rfl (stepCall rfl Try.call19 rfl ?_)
          have ho : okT (now + l[i].2.2, (k : Int)) := by unfold okT; dsimp only; omega
          have es := setT_ok du.ok ho (show ¬ 300 ≤ (woutT t k).length by have := woutT_len t (k : Int); omega)
          have hc := set_c V c t k (now + l[i].2.2) H1 (Own.rd ow).2 (by omega)
          rw [es] at hc
          refine hc.mono ?_
          rintro v H2 ⟨V2, c2, rfl, o2, x2⟩
          have z12 := ow.lt
          have z2 := x2.size
          replace h7 := h7.ext x2
          replace hd := hd.ext x2
          replace hE := hE.trans x2
          clear hc
          refine seqQ rfl rfl (yMove (v := .tuple _) rfl rfl) ?_
          refine seqQ rfl rfl (yExtract (v := .slice _ _ _) rfl rfl rfl) ?_
          refine seqQ rfl rfl (yExtract (v := .int _ _) rfl rfl rfl) ?_
          refine seqQ rfl rfl (yAssign (v := .slice _ _ _) rfl rfl) ?_
          refine seqQ rfl rfl (yAssign (v := .int _ _) rfl rfl) ?_
          refine seqNil ?_
          refine hF24 _ _ ?_; clear hF24
          refine wpSeq fun F25 hF25 => ?_
          refine wpSeq fun F26 hF26 => ?_
          refine wpRegion ?_
          refine seqQ rfl rfl (yMove (v := .int _ _) rfl rfl) ?_
          refine seqQ rfl rfl (yNeq rfl rfl rfl) ?_
          refine seqNil ?_
          refine hF26 _ _ ?_; clear hF26
          -- if t135
          refine wpF rfl ?_
          refine wpSkip ?_
          refine hF25 _ _ ?_; clear hF25
          refine wpRegionD Try_mixed [.q, .q, .q, .q, .q, .q, .q, .q, .q, .q, .e] 9 [0, 1, 0, 0, 0, 16, 56, 120, 4, 511, 1023] [] (by kernel_rfl) _ rfl [0, 1, 2, 3, 4, 5, 6, 7, 8] rfl (by simp) ?_
          refine lexQ rfl rfl rfl rfl (fun H hM => (yFieldAddr rfl Try.underlying55 rfl Try.sizeOf3 rfl rfl)) ?_
          refine lexQ rfl rfl rfl rfl (fun H hM => (yLoad rfl Try.underlying3 rfl rfl (hM.ext.cell (h7.cell rfl)))) ?_
          refine lexQ rfl rfl rfl rfl (fun H hM => (yMove (v := .slice _ _ _) rfl rfl)) ?_
          refine lexQ rfl rfl rfl rfl (fun H hM => (yMove (v := .int _ _) rfl rfl)) ?_
          refine lexQ rfl rfl rfl rfl (fun H hM => (yFieldAddr rfl Try.underlying55 rfl Try.sizeOf3 rfl rfl)) ?_
          refine lexQ rfl rfl rfl rfl (fun H hM => (yLoad rfl Try.underlying3 rfl rfl (hM.ext.cell (h7.cell rfl)))) ?_
          refine lexQ rfl rfl rfl rfl (fun H hM => (yAdd rfl rfl rfl (by unfold In64; dsimp only; omega))) ?_
          refine lexQ rfl rfl rfl rfl (fun H hM => (yAdd rfl rfl rfl (by unfold In64; dsimp only; omega))) ?_
          refine lexQ rfl rfl rfl rfl (fun H hM => (yAssign (v := .slice _ _ _) rfl rfl)) ?_
          -- tail
          refine lexNil0 rfl (fun hM => ?_)
          refine seqQ rfl rfl (yIdxA1 rfl Try.underlying53 Try.sizeOf3 rfl rfl rfl hk) ?_
          -- e slot None: store T3 t144 t143
          refine seqE0 rfl rfl (stepStore rfl Try.sizeOf3 rfl rfl rfl rfl hd (by omega) ?_)
          intro H3 hd3 hK3
          replace hd3 : Blk H3 g4 ((d.set k (now + l[i].2.2 + 1)).map (Value.int .i64)) 53 := by rw [List.map_set]; exact hd3
          refine seqNil ?_
          refine hF14 _ _ ?_; clear hF14
          refine wpRegion ?_
          refine seqQ rfl rfl (yMove (v := .int _ _) rfl rfl) ?_
          refine seqQ rfl rfl (yAdd rfl rfl rfl (by unfold In64; omega)) ?_
          refine seqQ rfl rfl (yAssign (v := .int _ _) rfl rfl) ?_
          refine seqNil ?_
          -- end loop
          refine loopEnd (i + 1, .slice V2 _ c2, now) (by repeat (first | (with_reducible exact Agree.refl _ _) | refine Agree.upd ?_ rfl | refine Agree.over ?_ rfl)) (by dsimp only; omega) ⟨rfl, rfl, rfl, trivial⟩ ⟨hi, hE.mine hK3 (by simp; omega), by have := hK3.size; omega, n0, by dsimp only; omega, V2, c2, _, _, rfl, ?_, hd3, du.set hk ho (by omega), ?_⟩
          · exact (o2.keep hK3 (fun g e => by have := (o2.lt g e).1; simp; omega)).mono (by omega)
          · dsimp only
            rw [insT_len]
            have := woutT_len t (k : Int)
            omega
        · skip
          refine wpSeq fun F27 hF27 => ?_
          refine wpRegion ?_
          refine seqQ rfl rfl (yEql rfl rfl rfl) ?_
          refine seqQ rfl rfl (yAssign (v := .bool _) rfl rfl) ?_
          refine seqNil ?_
          refine hF27 _ _ ?_; clear hF27
          -- if t145
          refine wpIf rfl (fun hk1 => ?_) (fun hk1 => ?_)
          · skip
            refine wpSeq fun F28 hF28 => ?_
            refine wpRegion ?_
            refine seqQ rfl rfl (yMove (v := .slice _ _ _) rfl rfl) ?_
            refine seqQ rfl rfl (yFieldAddr rfl Try.underlying55 rfl Try.sizeOf3 rfl rfl) ?_
            refine seqQ rfl rfl (yLoad rfl Try.underlying3 rfl rfl (h7.cell rfl)) ?_
            -- e slot 151: call F21<farandole/timer.Cancel> t148 t150
            refine seqE rfl rfl (stepCall rfl Try.call21 rfl ?_)
            have lc := cancel_len t (k : Int)
            have hdc := du.cancel hk
            refine (cancel_c V c t k H1 (Own.rd ow).2 (by omega)).mono ?_
            rintro v H2 ⟨V2, c2, rfl, o2, x2⟩
            have z2 := x2.size
            replace h7 := h7.ext x2
            replace hd := hd.ext x2
            replace hE := hE.trans x2
            replace ow := ow.ext x2
            refine seqQ rfl rfl (yMove (v := .tuple _) rfl rfl) ?_
            refine seqQ rfl rfl (yExtract (v := .slice _ _ _) rfl rfl rfl) ?_
            refine seqQ rfl rfl (yExtract (v := .int _ _) rfl rfl rfl) ?_
            refine seqQ rfl rfl (yAssign (v := .slice _ _ _) rfl rfl) ?_
            refine seqQ rfl rfl (yAssign (v := .int _ _) rfl rfl) ?_
            refine seqNil ?_
            refine hF28 _ _ ?_; clear hF28
            refine wpSeq fun F29 hF29 => ?_
            refine wpSeq fun F30 hF30 => ?_
            refine wpRegion ?_
            refine seqQ rfl rfl (yMove (v := .int _ _) rfl rfl) ?_
            refine seqQ rfl rfl (yEql rfl rfl rfl) ?_
            refine seqQ rfl rfl (yFieldAddr rfl Try.underlying55 rfl Try.sizeOf3 rfl rfl) ?_
            refine seqQ rfl rfl (yLoad rfl Try.underlying3 rfl rfl (h7.cell rfl)) ?_
            refine seqQ rfl rfl (yIdxA1 rfl Try.underlying53 Try.sizeOf3 rfl rfl rfl hk) ?_
            refine seqQ rfl rfl (yLoad rfl Try.underlying3 rfl rfl (hd.cell hcell)) ?_
            refine seqQ rfl rfl (yGtr rfl rfl rfl) ?_
            refine seqQ rfl rfl (yNeqB rfl Try.underlying4 rfl rfl) ?_
            refine seqNil ?_
            refine hF30 _ _ ?_; clear hF30
            -- if t161
            have eb : decide ((cancelT t k).1 = 0) = decide (0 < gD d k) := decide_eq_decide.2 hdc
            rw [eb, beq_self_eq_true, ← eb]
            refine wpF rfl ?_
            refine wpSkip ?_
            refine hF29 _ _ ?_; clear hF29
            refine wpSeq fun F31 hF31 => ?_
            refine wpRegion ?_
            refine seqQ rfl rfl (yMove (v := .int _ _) rfl rfl) ?_
            refine seqQ rfl rfl (yEql rfl rfl rfl) ?_
            refine seqNil ?_
            refine hF31 _ _ ?_; clear hF31
            -- if t163
            refine wpIf rfl (fun hc0 => ?_) (fun hc0 => ?_)
            · skip
              have ec := cancel_ok hc0
              refine wpRegionD Try_mixed [.q, .q, .q, .q, .q, .e] 4 [0, 1, 0, 4, 15, 31] [] (by kernel_rfl) _ rfl [0, 1, 2, 3] rfl (by simp) ?_
              refine lexQ rfl rfl rfl rfl (fun H hM => (yFieldAddr rfl Try.underlying55 rfl Try.sizeOf3 rfl rfl)) ?_
              refine lexQ rfl rfl rfl rfl (fun H hM => (yLoad rfl Try.underlying3 rfl rfl (hM.ext.cell (h7.cell rfl)))) ?_
              refine lexQ rfl rfl rfl rfl (fun H hM => (yMove (v := .slice _ _ _) rfl rfl)) ?_
              refine lexQ rfl rfl rfl rfl (fun H hM => (yAssign (v := .slice _ _ _) rfl rfl)) ?_
              -- tail
              refine lexNil0 rfl (fun hM => ?_)
              refine seqQ rfl rfl (yIdxA1 rfl Try.underlying53 Try.sizeOf3 rfl rfl rfl hk) ?_
              -- e slot None: store T3 t167 [i:i64:0]
              refine seqE0 rfl rfl (stepStore rfl Try.sizeOf3 rfl rfl rfl rfl hd (by omega) ?_)
              intro H3 hd3 hK3
              replace hd3 : Blk H3 g4 ((d.set k 0).map (Value.int .i64)) 53 := by rw [List.map_set]; exact hd3
              refine seqNil ?_
              refine hF14 _ _ ?_; clear hF14
              refine wpRegion ?_
              refine seqQ rfl rfl (yMove (v := .int _ _) rfl rfl) ?_
              refine seqQ rfl rfl (yAdd rfl rfl rfl (by unfold In64; omega)) ?_
              refine seqQ rfl rfl (yAssign (v := .int _ _) rfl rfl) ?_
              refine seqNil ?_
              -- end loop
              refine loopEnd (i + 1, .slice V2 _ c2, now) (by repeat (first | (with_reducible exact Agree.refl _ _) | refine Agree.upd ?_ rfl | refine Agree.over ?_ rfl)) (by dsimp only; omega) ⟨rfl, rfl, rfl, trivial⟩ ⟨hi, hE.mine hK3 (by simp; omega), by have := hK3.size; omega, n0, by dsimp only; omega, V2, c2, (cancelT t k).2, _, rfl, ?_, hd3, ?_, ?_⟩
              · exact (o2.keep hK3 (fun g e => by have := (o2.lt g e).1; simp; omega)).mono (by omega)
              · rw [ec]
                exact du.wout hk
              · dsimp only
                omega
            · skip
              refine wpSkip ?_
              refine hF14 _ _ ?_; clear hF14
              refine wpRegion ?_
              refine seqQ rfl rfl (yMove (v := .int _ _) rfl rfl) ?_
              refine seqQ rfl rfl (yAdd rfl rfl rfl (by unfold In64; omega)) ?_
              refine seqQ rfl rfl (yAssign (v := .int _ _) rfl rfl) ?_
              refine seqNil ?_
              -- end loop
              exact loopEnd (i + 1, .slice V _ c, now) (by repeat (first | (with_reducible exact Agree.refl _ _) | refine Agree.upd ?_ rfl | refine Agree.over ?_ rfl)) (by dsimp only; omega) ⟨rfl, rfl, rfl, trivial⟩ ⟨hi, hE, by omega, n0, by dsimp only; omega, V, c, t, d, rfl, ow, hd, du, by dsimp only; omega⟩
          · skip
            refine wpSeq fun F32 hF32 => ?_
            refine wpRegion ?_
            refine seqQ rfl rfl (yMove (v := .int _ _) rfl rfl) ?_
            refine seqQ rfl rfl (yFieldAddr rfl Try.underlying55 rfl Try.sizeOf3 rfl rfl) ?_
            refine seqQ rfl rfl (yLoad rfl Try.underlying3 rfl rfl (h7.cell rfl)) ?_
            refine seqQ rfl rfl (yAdd rfl rfl rfl (by unfold In64; dsimp only; omega)) ?_
            refine seqQ rfl rfl (yAssign (v := .int _ _) rfl rfl) ?_
            refine seqNil ?_
            refine hF32 _ _ ?_; clear hF32
            refine wpSeq fun F33 hF33 => ?_
            refine wpRegion ?_
            refine seqQ rfl rfl (yMove (v := .slice _ _ _) rfl rfl) ?_
            refine seqQ rfl rfl (yMove (v := .int _ _) rfl rfl) ?_
            -- e slot 58: call F10<farandole/timer.Expire> t56 t57
            refine seqE rfl rfl (stepCall rfl Try.call10 rfl ?_)
            obtain ⟨now', en⟩ : ∃ n, n = now + l[i].2.2 := ⟨_, rfl⟩
            rw [← en]
            refine (expire_c V c t now' H1 (Own.rd ow).2 (by omega) ow.cap_le).mono ?_
            rintro v H2 ⟨V2, c2, W2, d2, rfl, o2, q2, x2⟩
            obtain ⟨ed, ez⟩ := exp_drop (now := now') du.ok
            have hlater := exp_later (now := now') du.ok
            have lz : (expT t now').2.length ≤ t.length := by
              rw [expT_ok du.ok, List.length_map]
              exact (List.takeWhile_sublist _).length_le
            have lz1 : (expT t now').1.length ≤ t.length := by
              rw [expT_ok du.ok]
              exact (List.dropWhile_sublist _).length_le
            have z2 := x2.size
            replace hd := hd.ext x2
            replace hE := hE.trans x2
            clear ow h7
            refine seqQ rfl rfl (yMove (v := .tuple _) rfl rfl) ?_
            refine seqQ rfl rfl (yExtract (v := .slice _ _ _) rfl rfl rfl) ?_
            refine seqQ rfl rfl (yExtract (v := .slice _ _ _) rfl rfl rfl) ?_
            refine seqQ rfl rfl (yAssign (v := .slice _ _ _) rfl rfl) ?_
            refine seqQ rfl rfl (yAssign (v := .slice _ _ _) rfl rfl) ?_
            refine seqNil ?_
            refine hF33 _ _ ?_; clear hF33
            refine wpSeq fun F34 hF34 => ?_
            refine wpRegion ?_
            refine seqQ rfl rfl (yMove (v := .slice _ _ _) rfl rfl) ?_
            refine seqQ rfl rfl (yAssign (v := .slice _ _ _) rfl rfl) ?_
            refine seqNil ?_
            refine hF34 _ _ ?_; clear hF34
            refine wpSeq fun F35 hF35 => ?_
            refine wpSeq fun F36 hF36 => ?_
            refine wpRegion ?_
            refine seqQ rfl rfl (yAssign (v := .int _ _) rfl rfl) ?_
            refine seqNil ?_
            refine hF36 _ _ ?_; clear hF36
            -- loop
            refine wpBlock ?_
            refine wpLoopS [2, 14, 62, 63, 64, 65, 66, 67, 68, 69, 70, 71, 72, 73, 74, 75, 76, 77, 78, 79, 80, 81, 82, 83, 84, 85, 86, 87, 88, 89, 90, 91, 92, 93, 94, 95, 96, 97, 98, 99, 100, 101, 102, 103, 104] (fun j : Nat => [(14, .int .i64 j)]) (fun j H' => j ≤ (expT t now').2.length ∧ Keep [g4] H2 H' ∧ ∃ d' : List Int, Blk H' g4 (d'.map (Value.int .i64)) 53 ∧ Due (t.drop j) d') (fun j => (expT t now').2.length - j) 0 ⟨rfl, trivial⟩ ⟨Nat.zero_le _, Keep.refl _ _, d, hd, du⟩ ?_
            clear hd hcell hkd hlm
            rintro j J2 H3 ⟨hj, hK, d', hd, dj⟩
            have o3 := o2.keep hK (fun g e => by have := (o2.lt g e).1; simp; omega)
            have q3 := q2.keep hK (fun g e => by have := (q2.lt g e).1; simp; omega)
            refine wpSeq fun F37 hF37 => ?_
            refine wpSeq fun F38 hF38 => ?_
            refine wpRegion ?_
            refine seqQ rfl rfl (yMove (v := .int _ _) rfl rfl) ?_
            refine seqQ rfl rfl (yMove (v := .slice _ _ _) rfl rfl) ?_
            refine seqQ rfl rfl (yLen rfl Try.underlying27 rfl) ?_
            refine seqQ rfl rfl (yLss rfl rfl rfl) ?_
            refine seqNil ?_
            refine hF38 _ _ ?_; clear hF38
            -- if t65
            refine wpIf rfl (fun hjl => ?_) (fun hjl => ?_)
            · skip
              have hj : j < (expT t now').2.length := by omega
              obtain ⟨hjt, ezj, hle⟩ := ez j hj
              have edr := List.drop_eq_getElem_cons hjt
              obtain ⟨m, hm, em, eg⟩ := dj.note t[j] (by rw [edr]; exact List.mem_cons_self ..)
              have hmd : m < d'.length := by rw [dj.len]; exact hm
              have hml : (d'.map (Value.int .i64)).length = 16 := by rw [List.length_map, dj.len]
              have hcell : (d'.map (Value.int .i64))[m]? = some (.int .i64 (t[j].1 + 1)) := by rw [← eg, List.getElem?_map, List.getElem?_eq_getElem hmd, gD_at hmd]; rfl
              have hpos := du.ok.ok _ (List.getElem_mem hjt)
              unfold okT at hpos
              obtain ⟨p, ep, hp⟩ := (Own.rd q3).2.at1 hj
              rw [ezj, em] at hp
              refine wpSkip ?_
              refine hF37 _ _ ?_; clear hF37
              refine wpSeq fun F39 hF39 => ?_
              refine wpBlock ?_
              refine wpSeq fun F40 hF40 => ?_
              refine wpSeq fun F41 hF41 => ?_
              refine wpRegion ?_
              refine seqQ rfl rfl (yMove (v := .slice _ _ _) rfl rfl) ?_
              refine seqQ rfl rfl (yMove (v := .int _ _) rfl rfl) ?_
              refine seqQ rfl rfl (yIdxP1 rfl Try.underlying27 Try.sizeOf3 rfl rfl ep rfl hj) ?_
              refine seqQ rfl rfl (yLoad rfl Try.underlying3 rfl rfl hp) ?_
              refine seqQ rfl rfl (yLss rfl rfl rfl) ?_
              first | refine seqG rfl rfl rfl rfl (fun h73 => ?_) (fun h73 => ?_) | refine seqGB rfl rfl rfl rfl (fun h73 => ?_) (fun h73 => ?_)
              · skip
                refine seqU rfl rfl ?_
                refine seqU rfl rfl ?_
                refine seqU rfl rfl ?_
                refine seqU rfl rfl ?_
                refine seqU rfl rfl ?_
                refine seqQ rfl rfl (yPickT (v := .bool _) rfl rfl rfl) ?_
                refine seqQ rfl rfl (yMove (v := .bool true) rfl rfl) ?_
                refine seqU rfl rfl ?_
                refine seqU rfl rfl ?_
                refine seqU rfl rfl ?_
                refine seqU rfl rfl ?_
                refine seqU rfl rfl ?_
                refine seqU rfl rfl ?_
                refine seqU rfl rfl ?_
                refine seqQ rfl rfl (yPickT (v := .bool _) rfl rfl rfl) ?_
                refine seqQ rfl rfl (yMove (v := .bool true) rfl rfl) ?_
                refine seqU rfl rfl ?_
                refine seqU rfl rfl ?_
                refine seqU rfl rfl ?_
                refine seqU rfl rfl ?_
                refine seqU rfl rfl ?_
                refine seqU rfl rfl ?_
                refine seqU rfl rfl ?_
                refine seqU rfl rfl ?_
                refine seqU rfl rfl ?_
                refine seqQ rfl rfl (yPickT (v := .bool _) rfl rfl rfl) ?_
                refine seqNil ?_
                refine hF41 _ _ ?_; clear hF41
                refine wpT rfl ?_
                refine wpSeq fun F42 hF42 => ?_
                refine wpRegion ?_
                refine seqQ rfl rfl (yAssign (v := .bool _) rfl rfl) ?_
                refine seqNil ?_
                refine hF42 _ _ ?_; clear hF42
                refine wpRet (fin1 (v := .bool _) rfl rfl ?_)
                exfalso
                omega
              refine seqQ rfl rfl (yMove (v := .slice _ _ _) rfl rfl) ?_
              refine seqQ rfl rfl (yMove (v := .int _ _) rfl rfl) ?_
              refine seqQ rfl rfl (yIdxP1 rfl Try.underlying27 Try.sizeOf3 rfl rfl ep rfl hj) ?_
              refine seqQ rfl rfl (yLoad rfl Try.underlying3 rfl rfl hp) ?_
              refine seqQ rfl rfl (yGtr rfl rfl rfl) ?_
              refine seqQ rfl rfl (yPickF (v := .bool _) rfl rfl rfl) ?_
              first | refine seqG rfl rfl rfl rfl (fun h80 => ?_) (fun h80 => ?_) | refine seqGB rfl rfl rfl rfl (fun h80 => ?_) (fun h80 => ?_)
              · skip
                refine seqU rfl rfl ?_
                refine seqU rfl rfl ?_
                refine seqU rfl rfl ?_
                refine seqU rfl rfl ?_
                refine seqU rfl rfl ?_
                refine seqU rfl rfl ?_
                refine seqU rfl rfl ?_
                refine seqQ rfl rfl (yPickT (v := .bool _) rfl rfl rfl) ?_
                refine seqQ rfl rfl (yMove (v := .bool true) rfl rfl) ?_
                refine seqU rfl rfl ?_
                refine seqU rfl rfl ?_
                refine seqU rfl rfl ?_
                refine seqU rfl rfl ?_
                refine seqU rfl rfl ?_
                refine seqU rfl rfl ?_
                refine seqU rfl rfl ?_
                refine seqU rfl rfl ?_
                refine seqU rfl rfl ?_
                refine seqQ rfl rfl (yPickT (v := .bool _) rfl rfl rfl) ?_
                refine seqNil ?_
                refine hF41 _ _ ?_; clear hF41
                refine wpT rfl ?_
                refine wpSeq fun F43 hF43 => ?_
                refine wpRegion ?_
                refine seqQ rfl rfl (yAssign (v := .bool _) rfl rfl) ?_
                refine seqNil ?_
                refine hF43 _ _ ?_; clear hF43
                refine wpRet (fin1 (v := .bool _) rfl rfl ?_)
                exfalso
                omega
              refine seqQ rfl rfl (yMove (v := .slice _ _ _) rfl rfl) ?_
              refine seqQ rfl rfl (yMove (v := .int _ _) rfl rfl) ?_
              refine seqQ rfl rfl (yIdxP1 rfl Try.underlying27 Try.sizeOf3 rfl rfl ep rfl hj) ?_
              refine seqQ rfl rfl (yLoad rfl Try.underlying3 rfl rfl hp) ?_
              refine seqQ rfl rfl (yIdxA1 rfl Try.underlying53 Try.sizeOf3 rfl rfl rfl hm) ?_
              refine seqQ rfl rfl (yLoad rfl Try.underlying3 rfl rfl (hd.cell hcell)) ?_
              refine seqQ rfl rfl (yEql rfl rfl rfl) ?_
              refine seqQ rfl rfl (yPickF (v := .bool _) rfl rfl rfl) ?_
              first | refine seqG rfl rfl rfl rfl (fun h89 => ?_) (fun h89 => ?_) | refine seqGB rfl rfl rfl rfl (fun h89 => ?_) (fun h89 => ?_)
              · skip
                refine seqU rfl rfl ?_
                refine seqU rfl rfl ?_
                refine seqU rfl rfl ?_
                refine seqU rfl rfl ?_
                refine seqU rfl rfl ?_
                refine seqU rfl rfl ?_
                refine seqU rfl rfl ?_
                refine seqU rfl rfl ?_
                refine seqU rfl rfl ?_
                refine seqQ rfl rfl (yPickT (v := .bool _) rfl rfl rfl) ?_
                refine seqNil ?_
                refine hF41 _ _ ?_; clear hF41
                refine wpT rfl ?_
                refine wpSeq fun F44 hF44 => ?_
                refine wpRegion ?_
                refine seqQ rfl rfl (yAssign (v := .bool _) rfl rfl) ?_
                refine seqNil ?_
                refine hF44 _ _ ?_; clear hF44
                refine wpRet (fin1 (v := .bool _) rfl rfl ?_)
                exfalso
                omega
              refine seqQ rfl rfl (yMove (v := .slice _ _ _) rfl rfl) ?_
              refine seqQ rfl rfl (yMove (v := .int _ _) rfl rfl) ?_
              refine seqQ rfl rfl (yIdxP1 rfl Try.underlying27 Try.sizeOf3 rfl rfl ep rfl hj) ?_
              refine seqQ rfl rfl (yLoad rfl Try.underlying3 rfl rfl hp) ?_
              refine seqQ rfl rfl (yIdxA1 rfl Try.underlying53 Try.sizeOf3 rfl rfl rfl hm) ?_
              refine seqQ rfl rfl (yLoad rfl Try.underlying3 rfl rfl (hd.cell hcell)) ?_
              refine seqQ rfl rfl (ySub rfl rfl rfl (by unfold In64; omega)) ?_
              refine seqQ rfl rfl (yMove (v := .int _ _) rfl rfl) ?_
              refine seqQ rfl rfl (yGtr rfl rfl rfl) ?_
              refine seqQ rfl rfl (yPickF (v := .bool _) rfl rfl rfl) ?_
              refine seqNil ?_
              refine hF41 _ _ ?_; clear hF41
              -- if t99
              refine wpIf rfl (fun hbad => ?_) (fun hbad => ?_)
              · skip
                exfalso
                omega
              · skip
                refine wpSkip ?_
                refine hF40 _ _ ?_; clear hF40
                refine wpRegion ?_
                refine seqQ rfl rfl (yMove (v := .slice _ _ _) rfl rfl) ?_
                refine seqQ rfl rfl (yMove (v := .int _ _) rfl rfl) ?_
                refine seqQ rfl rfl (yIdxP1 rfl Try.underlying27 Try.sizeOf3 rfl rfl ep rfl hj) ?_
                refine seqQ rfl rfl (yLoad rfl Try.underlying3 rfl rfl hp) ?_
                refine seqQ rfl rfl (yIdxA1 rfl Try.underlying53 Try.sizeOf3 rfl rfl rfl hm) ?_
                -- e slot None: store T3 t104 [i:i64:0]
                refine seqE0 rfl rfl (stepStore rfl Try.sizeOf3 rfl rfl rfl rfl hd (by omega) ?_)
                intro H5 hd5 hK5
                replace hd5 : Blk H5 g4 ((d'.set m 0).map (Value.int .i64)) 53 := by rw [List.map_set]; exact hd5
                refine seqNil ?_
                refine hF39 _ _ ?_; clear hF39
                refine wpRegion ?_
                refine seqQ rfl rfl (yMove (v := .int _ _) rfl rfl) ?_
                refine seqQ rfl rfl (yAdd rfl rfl rfl (by unfold In64; omega)) ?_
                refine seqQ rfl rfl (yAssign (v := .int _ _) rfl rfl) ?_
                refine seqNil ?_
                -- end loop
                exact loopEnd (j + 1) (by repeat (first | (with_reducible exact Agree.refl _ _) | refine Agree.upd ?_ rfl | refine Agree.over ?_ rfl)) (by omega) ⟨rfl, trivial⟩ ⟨hj, hK.trans hK5, _, hd5, (edr ▸ dj).tail hm em⟩
            · skip
              obtain rfl : j = (expT t now').2.length := by omega
              rw [← ed] at dj
              refine wpExit ?_
              refine hF35 _ _ ?_; clear hF35
              refine wpSeq fun F45 hF45 => ?_
              refine wpRegion ?_
              refine seqQ rfl rfl (yAssign (v := .int _ _) rfl rfl) ?_
              refine seqNil ?_
              refine hF45 _ _ ?_; clear hF45
              -- loop
              refine wpBlock ?_
              refine wpLoopS [2, 15, 105, 106, 107, 108, 109, 110, 111, 112, 113, 114, 115, 116, 117, 118, 119, 120] (fun m : Nat => [(15, .int .i64 m)]) (fun m H' => m ≤ 16 ∧ H' = H3) (fun m => 16 - m) 0 ⟨rfl, trivial⟩ ⟨Nat.zero_le _, rfl⟩ ?_
              rintro m J3 H4 ⟨hm, rfl⟩
              refine wpSeq fun F46 hF46 => ?_
              refine wpSeq fun F47 hF47 => ?_
              refine wpRegion ?_
              refine seqQ rfl rfl (yMove (v := .int _ _) rfl rfl) ?_
              refine seqQ rfl rfl (yLss rfl rfl rfl) ?_
              refine seqNil ?_
              refine hF47 _ _ ?_; clear hF47
              -- if t106
              refine wpIf rfl (fun hml => ?_) (fun hml => ?_)
              · skip
                have hm : m < 16 := by omega
                have hmd : m < d'.length := by rw [dj.len]; exact hm
                have hcell : (d'.map (Value.int .i64))[m]? = some (.int .i64 (gD d' m)) := by rw [List.getElem?_map, List.getElem?_eq_getElem hmd, gD_at hmd]; rfl
                have hcase : gD d' m = 0 ∨ (now' < gD d' m - 1 ∧ gD d' m ≤ 1099511627777) := by
                  rcases dj.has m hm with h0 | h0
                  · exact .inl h0
                  · have h1 := hlater _ h0
                    have h2 := dj.ok.ok _ h0
                    unfold okT at h2
                    dsimp only at h1 h2
                    exact .inr ⟨h1, by omega⟩
                refine wpSkip ?_
                refine hF46 _ _ ?_; clear hF46
                refine wpSeq fun F48 hF48 => ?_
                refine wpBlock ?_
                refine wpSeq fun F49 hF49 => ?_
                refine wpRegion ?_
                refine seqQ rfl rfl (yMove (v := .int _ _) rfl rfl) ?_
                refine seqQ rfl rfl (yIdxA1 rfl Try.underlying53 Try.sizeOf3 rfl rfl rfl hm) ?_
                refine seqQ rfl rfl (yLoad rfl Try.underlying3 rfl rfl (hd.cell hcell)) ?_
                refine seqQ rfl rfl (yGtr rfl rfl rfl) ?_
                -- guard t113
                refine seqG rfl rfl rfl rfl (fun hpos => ?_) (fun hpos => ?_)
                · skip
                  refine seqQ rfl rfl (yMove (v := .int _ _) rfl rfl) ?_
                  refine seqQ rfl rfl (yIdxA1 rfl Try.underlying53 Try.sizeOf3 rfl rfl rfl hm) ?_
                  refine seqQ rfl rfl (yLoad rfl Try.underlying3 rfl rfl (hd.cell hcell)) ?_
                  refine seqQ rfl rfl (ySub rfl rfl rfl (by unfold In64; omega)) ?_
                  refine seqQ rfl rfl (yMove (v := .int _ _) rfl rfl) ?_
                  refine seqQ rfl rfl (yLeq rfl rfl rfl) ?_
                  refine seqQ rfl rfl (yPickT (v := .bool _) rfl rfl rfl) ?_
                  refine seqNil ?_
                  refine hF49 _ _ ?_; clear hF49
                  -- if t120
                  refine wpIf rfl (fun hle => ?_) (fun hle => ?_)
                  · skip
                    exfalso
                    omega
                  · skip
                    refine wpSkip ?_
                    refine hF48 _ _ ?_; clear hF48
                    refine wpRegion ?_
                    refine seqQ rfl rfl (yMove (v := .int _ _) rfl rfl) ?_
                    refine seqQ rfl rfl (yAdd rfl rfl rfl (by unfold In64; omega)) ?_
                    refine seqQ rfl rfl (yAssign (v := .int _ _) rfl rfl) ?_
                    refine seqNil ?_
                    -- end loop
                    exact loopEnd (m + 1) (by repeat (first | (with_reducible exact Agree.refl _ _) | refine Agree.upd ?_ rfl | refine Agree.over ?_ rfl)) (by omega) ⟨rfl, trivial⟩ ⟨hm, rfl⟩
                · skip
                  refine seqU rfl rfl ?_
                  refine seqU rfl rfl ?_
                  refine seqU rfl rfl ?_
                  refine seqU rfl rfl ?_
                  refine seqU rfl rfl ?_
                  refine seqU rfl rfl ?_
                  refine seqQ rfl rfl (yPickF (v := .bool _) rfl rfl rfl) ?_
                  refine seqNil ?_
                  refine hF49 _ _ ?_; clear hF49
                  -- if t120
                  refine wpF rfl ?_
                  refine wpSkip ?_
                  refine hF48 _ _ ?_; clear hF48
                  refine wpRegion ?_
                  refine seqQ rfl rfl (yMove (v := .int _ _) rfl rfl) ?_
                  refine seqQ rfl rfl (yAdd rfl rfl rfl (by unfold In64; omega)) ?_
                  refine seqQ rfl rfl (yAssign (v := .int _ _) rfl rfl) ?_
                  refine seqNil ?_
                  -- end loop
                  exact loopEnd (m + 1) (by repeat (first | (with_reducible exact Agree.refl _ _) | refine Agree.upd ?_ rfl | refine Agree.over ?_ rfl)) (by omega) ⟨rfl, trivial⟩ ⟨hm, rfl⟩
              · skip
                refine wpExit ?_
                refine hF14 _ _ ?_; clear hF14
                refine wpRegion ?_
                refine seqQ rfl rfl (yMove (v := .int _ _) rfl rfl) ?_
                refine seqQ rfl rfl (yAdd rfl rfl rfl (by unfold In64; omega)) ?_
                refine seqQ rfl rfl (yAssign (v := .int _ _) rfl rfl) ?_
                refine seqNil ?_
                -- end loop
                exact loopEnd (i + 1, .slice V2 _ c2, now') (by repeat (first | (with_reducible exact Agree.refl _ _) | refine Agree.upd ?_ rfl | refine Agree.over ?_ rfl)) (by dsimp only; omega) ⟨rfl, rfl, rfl, trivial⟩ ⟨hi, hE.mine hK (by simp; omega), by have := hK.size; omega, by dsimp only; omega, by dsimp only; omega, V2, c2, _, d', rfl, o3.mono (by omega), hd, dj, by dsimp only; omega⟩
    · skip
      refine wpExit ?_
      refine hF10 _ _ ?_; clear hF10
      refine wpSeq fun F50 hF50 => ?_
      refine wpRegion ?_
      refine seqQ rfl rfl (yAssign (v := .bool _) rfl rfl) ?_
      refine seqNil ?_
      refine hF50 _ _ ?_; clear hF50
      -- ret
      refine wpRet (fin1 (v := .bool _) rfl rfl ?_)
      exact ⟨rfl, hE⟩
set_option maxRecDepth 100000 in
set_option maxRecDepth 100000 in
theorem timerOnce_lifted (os : Os) (started : os.Started) (H : Type) (enc : TypeId × Value → H) :
    ReturnsInHanded {} Try.checked os 6 .any (Rows.timerOnceSpec.pre6 enc Try.prog Try.f6 Rows.timerOnceRow.domain false) (Rows.timerOnceSpec.post enc Try.prog Try.f6 false true false false) := by
  refine law_lifted started Rows.timerOnceSpec rfl (by kernel_rfl) Try.func6 rfl
    (fun ds h => by match ds, h with | [_], _ => rfl) (of_decide_eq_true (by kernel_rfl))
    (ChangeSpec.witness6 (enc := enc) (C := Try.checked) false ⟨#[], #[.slice none 0 0], []⟩ 8 (by kernel_rfl) (by kernel_rfl) (by kernel_rfl) (by kernel_rfl)) ?_
  intro W base args ds p hval hA
  rw [Try.params6] at hA hval
  obtain ⟨v0, d0, rfl, rfl, h0⟩ := trodAll_one hA
  have g0 := hval 0 _ v0 rfl rfl
  obtain ⟨⟨A, ca, l⟩, rfl, kA, -, k2, k3⟩ := (opn_sts W).one (one_slice Try.underlying52 g0) h0
  exact once_walk A ca l W.heap kA (by have := Nat.le_trans k2 k3; unfold maxLen at this; exact this)
set_option maxRecDepth 100000 in
theorem timerOnce_holds : Rows.TimerOnceSaid :=
  OpenClaim.holds_of_wide 6 Try.f6 rfl rfl rfl rfl rfl rfl rfl ⟨rfl, rfl, rfl, rfl, rfl⟩ rfl rfl rfl rfl rfl (by kernel_rfl) Try.func6 (by kernel_rfl)
    (of_decide_eq_true (by kernel_rfl)) (by unfold Func.isWrapper; first | (rw [if_pos (by decide +kernel)]; kernel_rfl) | (rw [if_neg (by decide +kernel)]; exact ⟨rfl, rfl⟩))
    (fun os started H enc _ => timerOnce_lifted os started H enc)
end Go.Proofs.Ytbicgjleomkhdaa
