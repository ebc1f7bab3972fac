/- Logs: merged completely; right. -/
import Derived.Test.YtbanngdijmglbaaN4
import Derived.Test.YtbanngdijmglbaaM18
namespace Go.Proofs.Ytbanngdijmglbaa
open Go.RowKit

set_option maxRecDepth 100000 in
theorem canB_iff {ls : List (List Ent)} {t : List Nat} {r : Nat} : canB ls t r = true ↔ t.getD r 0 ≠ (ls.getD r []).length ∧ ∀ k, k < (clkAt ls r (t.getD r 0)).length → k ≠ r → (clkAt ls r (t.getD r 0)).getD k 0 ≤ (t.getD k 0 : Nat) := by
  unfold canB
  rw [decide_eq_true_iff]
/-- The taken entries, and their order. -/
structure Outs (ls : List (List Ent)) (t : List Nat) (o : List (Nat × Nat)) : Prop where
  mem : ∀ r i, r < ls.length → (i < t.getD r 0 ↔ (r, i) ∈ o)
  nodup : o.Nodup
  prev : ∀ m r i, o[m]? = some (r, i) → r < ls.length ∧ (∀ a (x : Nat), a < (clkAt ls r i).length → a < ls.length → a ≠ r → (x : Int) + 1 ≤ (clkAt ls r i).getD a 0 → (a, x) ∈ o.take m) ∧ ∀ x, x < i → (r, x) ∈ o.take m
set_option maxRecDepth 100000 in
theorem take_snoc {α : Type} {o : List α} {x : α} {m : Nat} (h : m ≤ o.length) : (o ++ [x]).take m = o.take m := List.take_append_of_le_length h
set_option maxRecDepth 100000 in
theorem Outs.step {ls : List (List Ent)} {t : List Nat} {o : List (Nat × Nat)} {r : Nat} (h : Outs ls t o) (hl : t.length = ls.length) (hr : r < ls.length) (hc : canB ls t r = true) : Outs ls (t.set r (t.getD r 0 + 1)) (o ++ [(r, t.getD r 0)]) := by
  obtain ⟨-, hk⟩ := canB_iff.1 hc
  have hnew : (r, t.getD r 0) ∉ o := fun hm => by
    have := (h.mem r (t.getD r 0) hr).2 hm
    omega
  refine ⟨fun a i ha => ?_, ?_, fun m a i hm => ?_⟩
  · rw [getD_setG (by omega), List.mem_append, List.mem_singleton]
    by_cases e : r = a
    · subst e
      rw [if_pos rfl, ← h.mem r i hr]
      constructor
      · intro hi
        rcases Nat.lt_or_ge i (t.getD r 0) with g | g
        · exact .inl g
        · exact .inr (by rw [show i = t.getD r 0 by omega])
      · rintro (g | g)
        · omega
        · have := (Prod.mk.injEq .. ▸ g).2
          omega
    · rw [if_neg e, ← h.mem a i ha]
      constructor
      · exact .inl
      · rintro (g | g)
        · exact g
        · exact absurd (Prod.mk.injEq .. ▸ g).1.symm e
  · rw [List.nodup_append]
    refine ⟨h.nodup, by simp, fun x hx y hy => ?_⟩
    rw [List.mem_singleton] at hy
    rintro rfl
    rw [hy] at hx
    exact hnew hx
  · rcases Nat.lt_trichotomy m o.length with g | g | g
    · rw [List.getElem?_append_left g] at hm
      rw [take_snoc (by omega)]
      exact h.prev m a i hm
    · subst g
      rw [List.getElem?_append_right (Nat.le_refl _), Nat.sub_self] at hm
      obtain ⟨rfl, rfl⟩ := Prod.mk.injEq .. ▸ (Option.some.inj hm).symm
      rw [List.take_left']
      · refine ⟨hr, fun b x hb1 hb2 hb3 hx => ?_, fun x hx => (h.mem _ x hr).1 hx⟩
        have := hk b hb1 hb3
        exact (h.mem b x hb2).1 (by omega)
      · rfl
    · rw [List.getElem?_eq_none (by rw [List.length_append, List.length_singleton]; omega)] at hm
      cases hm
set_option maxRecDepth 100000 in
/-- What can go on goes to the end. -/
theorem merge_all {ls : List (List Ent)} (hprog : ∀ t : List Nat, t.length = ls.length → (∀ r, t.getD r 0 ≤ (ls.getD r []).length) → (∃ r, r < ls.length ∧ t.getD r 0 < (ls.getD r []).length) → ∃ r, r < ls.length ∧ canB ls t r = true) :
    ∀ (n : Nat) (t : List Nat) (o : List (Nat × Nat)), t.length = ls.length → (∀ r, t.getD r 0 ≤ (ls.getD r []).length) → remL ls t = n → Outs ls t o →
      ∃ o' t', mergeGo ls n t o = (true, o') ∧ o'.length = o.length + n ∧ Outs ls t' o' ∧ ∀ r, r < ls.length → t'.getD r 0 = (ls.getD r []).length
  | 0, t, o, hl, hb, hrem, ho => by
    refine ⟨o, t, rfl, rfl, ho, fun r hr => ?_⟩
    unfold remL at hrem
    rw [sum_range_zero] at hrem
    have := hrem r hr
    have := hb r
    omega
  | n + 1, t, o, hl, hb, hrem, ho => by
    have hex : ∃ r, r < ls.length ∧ t.getD r 0 < (ls.getD r []).length := by
      refine Decidable.byContradiction fun hno => ?_
      have : remL ls t = 0 := by
        unfold remL
        rw [sum_range_zero]
        intro r hr
        have : ¬ t.getD r 0 < (ls.getD r []).length := fun h => hno ⟨r, hr, h⟩
        omega
      omega
    obtain ⟨r1, h1, h2⟩ := hprog t hl hb hex
    cases hnx : nextR ls t with
    | none =>
      unfold nextR at hnx
      rw [List.find?_eq_none] at hnx
      exact absurd h2 (by simpa using hnx r1 (List.mem_range.2 h1))
    | some r =>
      obtain ⟨hr, hc, -⟩ := next_of hnx
      have hne := (canB_iff.1 hc).1
      have hlt : t.getD r 0 < (ls.getD r []).length := by have := hb r; omega
      have hset := rem_set (ls := ls) (t := t) (r := r) hr hl hlt
      obtain ⟨o', t', e1, e2, e3, e4⟩ := merge_all hprog n (t.set r (t.getD r 0 + 1)) (o ++ [(r, t.getD r 0)]) (by rw [List.length_set]; exact hl) (fun j => by
        by_cases e : r = j
        · subst e
          rw [getD_setG (by omega), if_pos rfl]
          exact hlt
        · rw [getD_setG (by omega), if_neg e]
          exact hb j) (by omega) (ho.step hl hr hc)
      refine ⟨o', t', ?_, by rw [e2, List.length_append, List.length_singleton]; omega, e3, e4⟩
      rw [← e1]
      simp only [mergeGo, hnx]
set_option maxRecDepth 100000 in
theorem outs_nil (ls : List (List Ent)) : Outs ls (List.replicate ls.length 0) [] := ⟨fun r i hr => by
    rw [List.getD_eq_getElem?_getD, List.getElem?_replicate, if_pos hr]
    simp, List.nodup_nil, fun m r i hm => by simp at hm⟩
set_option maxRecDepth 100000 in
theorem rep_le (ls : List (List Ent)) (r : Nat) : (List.replicate ls.length 0).getD r 0 ≤ (ls.getD r []).length := by
  rw [List.getD_eq_getElem?_getD, List.getElem?_replicate]
  split <;> exact Nat.zero_le _
set_option maxRecDepth 100000 in
theorem rep_zero (n r : Nat) : (List.replicate n 0).getD r 0 = 0 := by
  rw [List.getD_eq_getElem?_getD, List.getElem?_replicate]
  split <;> rfl
set_option maxRecDepth 100000 in
/-- What was merged completely: each entry knows only what there is. -/
theorem merge_known {ls : List (List Ent)} {r i : Nat} (hr : r < ls.length) (hi : i < (ls.getD r []).length) : ∀ (n : Nat) (t : List Nat) (o o' : List (Nat × Nat)), t.length = ls.length → (∀ r, t.getD r 0 ≤ (ls.getD r []).length) → remL ls t = n → mergeGo ls n t o = (true, o') → t.getD r 0 ≤ i →
    ∀ a, a < (clkAt ls r i).length → a ≠ r → (clkAt ls r i).getD a 0 ≤ ((ls.getD a []).length : Nat)
  | 0, t, o, o', hl, hb, hrem, _, hti => by
    unfold remL at hrem
    rw [sum_range_zero] at hrem
    have := hrem r hr
    omega
  | n + 1, t, o, o', hl, hb, hrem, hgo, hti => by
    intro a ha hne
    cases hnx : nextR ls t with
    | none =>
      simp only [mergeGo, hnx] at hgo
      cases (congrArg Prod.fst hgo)
    | some r0 =>
      simp only [mergeGo, hnx] at hgo
      obtain ⟨hr0, hc, -⟩ := next_of hnx
      obtain ⟨hne0, hk⟩ := canB_iff.1 hc
      have hlt : t.getD r0 0 < (ls.getD r0 []).length := by have := hb r0; omega
      have hset := rem_set (ls := ls) (t := t) (r := r0) hr0 hl hlt
      by_cases e : r0 = r ∧ t.getD r0 0 = i
      · obtain ⟨rfl, rfl⟩ := e
        have h1 := hk a ha hne
        have h2 := hb a
        omega
      · refine merge_known hr hi n (t.set r0 (t.getD r0 0 + 1)) _ o' (by rw [List.length_set]; exact hl) (fun j => ?_) (by omega) hgo ?_ a ha hne
        · by_cases e : r0 = j
          · subst e
            rw [getD_setG (by omega), if_pos rfl]
            exact hlt
          · rw [getD_setG (by omega), if_neg e]
            exact hb j
        · by_cases e2 : r0 = r
          · subst e2
            rw [getD_setG (by omega), if_pos rfl]
            have : t.getD r0 0 ≠ i := fun h => e ⟨rfl, h⟩
            omega
          · rw [getD_setG (by omega), if_neg e2]
            exact hti
set_option maxRecDepth 100000 in
theorem mergeL_known {ls : List (List Ent)} (h : (mergeL ls).1 = 0) {r i : Nat} (hr : r < ls.length) (hi : i < (ls.getD r []).length) : ∀ a, a < (clkAt ls r i).length → a ≠ r → (clkAt ls r i).getD a 0 ≤ ((ls.getD a []).length : Nat) := by
  have hv := mergeL_valid h
  cases hg : mergeGo ls (total ls) (List.replicate ls.length 0) [] with
  | mk b o =>
    cases b with
    | false => rw [mergeL_gap hv hg] at h; cases h
    | true => exact merge_known hr hi _ _ [] o (by simp) (rep_le ls) (rem_init ls) hg (by rw [rep_zero]; exact Nat.zero_le _)
set_option maxRecDepth 100000 in
theorem valid_stands {ls : List (List Ent)} (hv : ValidLogs ls) {r : Nat} (hr : r < ls.length) {e : Ent} (he : e ∈ ls.getD r []) : standsE e.ev r ls.length := by
  obtain ⟨i, hi, rfl⟩ := List.getElem_of_mem he
  have := ((hv.2 r hr).2.2.2 i hi).1
  rwa [getD_lt hi] at this
set_option maxRecDepth 100000 in
theorem labels_zero {l : List Ent} (h : ∀ e ∈ l, e.ev.label = 0) (s : Bool) (p : Int) : labelsOf (l.map Ent.ev) s p = List.replicate ((l.filter fun x => decide (x.ev.send = s ∧ x.ev.peer = p)).length) 0 := by
  unfold labelsOf
  rw [List.filter_map, List.map_map]
  refine List.eq_replicate_iff.2 ⟨by rw [List.length_map]; rfl, fun x hx => ?_⟩
  obtain ⟨e, he, rfl⟩ := List.mem_map.1 hx
  exact h e (List.mem_filter.1 he).1
set_option maxRecDepth 100000 in
/-- The messages that were received were sent. -/
theorem got_le {ls : List (List Ent)} {q p : Nat} (h : ∀ i, i < (ls.getD q []).length → rightE ls q i) : ∀ i, i ≤ (ls.getD q []).length → gotN (ls.getD q []) i p ≤ (sendsE (ls.getD p []) q).length
  | 0, _ => Nat.zero_le _
  | i + 1, hi => by
    have ih := got_le (p := p) h i (by omega)
    rw [gotN_succ _ (by omega)]
    by_cases hc : ((ls.getD q []).getD i ent0).ev.send = false ∧ ((ls.getD q []).getD i ent0).ev.peer = p
    · rw [if_pos hc]
      obtain ⟨x, hx, -⟩ := sent_there (h i (by omega)) hc.1
      rw [show (evAt ls q i).peer = (p : Int) from hc.2, Int.toNat_natCast] at hx
      have := (List.getElem?_eq_some_iff.1 hx).1
      omega
    · rw [if_neg hc]
      exact ih
set_option maxRecDepth 100000 in
theorem rep_prefix {α : Type} {a b : Nat} (h : a ≤ b) (x : α) : List.replicate a x <+: List.replicate b x := ⟨List.replicate (b - a) x, by rw [List.replicate_append_replicate]; congr 1; omega⟩
set_option maxRecDepth 100000 in
/-- Where there is one label, right clocks are all that is needed. -/
theorem rightL_of {ls : List (List Ent)} (hm : (mergeL ls).1 = 0) (h0 : ∀ r, r < ls.length → ∀ e ∈ ls.getD r [], e.ev.label = 0) (h : ∀ r, r < ls.length → ∀ i, i < (ls.getD r []).length → rightE ls r i) : rightL ls := by
  have hv := mergeL_valid hm
  have hev : ∀ r, (ls.map fun l => l.map Ent.ev).getD r [] = (ls.getD r []).map Ent.ev := fun r => by
    rw [List.getD_eq_getElem?_getD, List.getElem?_map, List.getD_eq_getElem?_getD]
    cases ls[r]? <;> rfl
  refine ⟨hm, ⟨⟨by rw [List.length_map]; exact hv.1.2, fun r hr x hx => ?_⟩, fun p hp q hq => ?_⟩, h⟩
  · rw [List.length_map] at hr ⊢
    rw [hev] at hx
    obtain ⟨e, he, rfl⟩ := List.mem_map.1 hx
    obtain ⟨h1, h2, h3, h4, -⟩ := valid_stands hv hr he
    exact ⟨h1, h2, h3, h4⟩
  · rw [List.length_map] at hp hq
    rw [hev, hev, labels_zero (h0 q hq), labels_zero (h0 p hp)]
    have := got_le (p := p) (h q hq) _ (Nat.le_refl _)
    unfold gotN sendsE at this
    rw [List.take_length] at this
    exact rep_prefix this 0
section
variable {c : Conv}
set_option maxRecDepth 100000 in
theorem ConvI.valids (h : ConvI c) : ValidLogs c.logs := ⟨by rw [h.l4]; decide, fun r hr => by rw [h.l4] at hr ⊢; exact h.val r hr⟩
set_option maxRecDepth 100000 in
theorem ConvI.total (h : ConvI c) : total c.logs = c.n := by
  have h4 := h.l4
  have ht := h.tot
  unfold Conv.len Conv.L at ht
  match hl : c.logs, h4 with
  | [x0, x1, x2, x3], _ =>
    rw [hl] at ht
    rw [← ht]
    show (x0.length + (x1.length + (x2.length + (x3.length + 0)))) = x0.length + x1.length + x2.length + x3.length
    omega
set_option maxRecDepth 100000 in
theorem ConvI.prog (h : ConvI c) (t : List Nat) (_hl : t.length = c.logs.length) (_hb : ∀ r, t.getD r 0 ≤ (c.logs.getD r []).length) (hex : ∃ r, r < c.logs.length ∧ t.getD r 0 < (c.logs.getD r []).length) : ∃ r, r < c.logs.length ∧ canB c.logs t r = true := by
  obtain ⟨a0, ha0, hlt⟩ := hex
  rw [h.l4] at ha0
  obtain ⟨k, hk, e1, e2⟩ := h.inv.ready (t := fun r => t.getD r 0) ha0 hlt
  obtain ⟨r4, il⟩ := h.inv.role k hk
  refine ⟨c.rl k, by rw [h.l4]; exact r4, canB_iff.2 ⟨?_, ?_⟩⟩
  · rw [← e1]
    show c.ix k ≠ c.len (c.rl k)
    omega
  · rw [← e1]
    intro a ha hne
    have ha : a < (c.ck k).length := ha
    rw [h.inv.cklen k hk] at ha
    exact e2 a ha hne
def Conv.at_ (c : Conv) (k : Nat) : Nat × Nat := c.order.getD k (0, 0)
set_option maxRecDepth 100000 in
theorem ConvI.merge (h : ConvI c) : ∃ o, mergeL c.logs = (0, o) ∧ o.length = c.n ∧ o.Nodup ∧ (∀ k, k < c.n → c.at_ k ∈ o) ∧ ∀ i k, i < c.n → c.bf i k → ∀ m, o[m]? = some (c.at_ i) → c.at_ k ∈ o.take m := by
  obtain ⟨o, t, e1, e2, e3, e4⟩ := merge_all h.prog (_root_.Go.Proofs.Ytbanngdijmglbaa.total c.logs) (List.replicate c.logs.length 0) [] (by simp) (rep_le _) (rem_init _) (outs_nil _)
  refine ⟨o, mergeL_ok h.valids e1, by rw [e2, h.total]; exact Nat.zero_add _, e3.nodup, fun k hk => ?_, fun i k hi hb m hm => ?_⟩
  · obtain ⟨r4, il⟩ := h.inv.role k hk
    have := (e3.mem (c.rl k) (c.ix k) (by rw [h.l4]; exact r4)).1 (by rw [e4 _ (by rw [h.l4]; exact r4)]; exact il)
    exact this
  · have hk : k < c.n := by have := h.inv.bfl i k hi hb; omega
    obtain ⟨k4, kl⟩ := h.inv.role k hk
    obtain ⟨-, p1, p2⟩ := e3.prev m (c.rl i) (c.ix i) hm
    have hc := (h.inv.causal i k hi hk).2 (.inr hb)
    by_cases e : c.rl k = c.rl i
    · have h1 := h.inv.mono k i (h.inv.bfl i k hi hb) hi e
      have := p2 (c.ix k) h1
      rw [← e] at this
      exact this
    · exact p1 (c.rl k) (c.ix k) (by rw [show (clkAt c.logs (c.rl i) (c.ix i)).length = 4 from h.inv.cklen i hi]; exact k4) (by rw [h.l4]; exact k4) e hc
set_option maxRecDepth 100000 in
theorem ConvI.rightL (h : ConvI c) : rightL c.logs := by
  obtain ⟨o, ho, -⟩ := h.merge
  exact rightL_of (by rw [ho]) (fun r hr e he => (h.lab r (by rw [h.l4] at hr; exact hr) e he).1) fun r hr i hi => h.right r i (by rw [h.l4] at hr; exact hr) hi
set_option maxRecDepth 100000 in
/-- Beginnings. -/
theorem ConvI.cut (h : ConvI c) {ls : List (List Ent)} (hl : ls.length = 4) (m : Nat → Nat) (hls : ∀ r, r < 4 → ls.getD r [] = (c.L r).take (m r)) : _root_.Go.Proofs.Ytbanngdijmglbaa.rightL ls ↔ (mergeL ls).1 = 0 := by
  refine ⟨fun h => h.1, fun hm => ?_⟩
  have hv := mergeL_valid hm
  refine rightL_of hm (fun r hr e he => ?_) fun r hr i hi => ?_
  · rw [hl] at hr
    rw [hls r hr] at he
    exact (h.lab r hr e (List.mem_of_mem_take he)).1
  · rw [hl] at hr
    have hgd : ∀ q k, q < 4 → k < (ls.getD q []).length → (ls.getD q []).getD k ent0 = (c.L q).getD k ent0 ∧ k < c.len q ∧ k < m q := fun q k hq hk => by
      rw [hls q hq] at hk ⊢
      have hk2 := hk
      rw [List.length_take] at hk2
      have hk3 : k < (c.L q).length := by omega
      refine ⟨?_, hk3, by omega⟩
      rw [getD_lt hk, getD_lt hk3, List.getElem_take]
    obtain ⟨q1, q2, q3⟩ := hgd r i hr hi
    have hR := h.right r i hr q2
    have hb : beforeC ls r i = beforeC c.logs r i := by
      unfold beforeC
      by_cases h0 : i = 0
      · rw [if_pos h0, if_pos h0, hl, h.l4]
      · rw [if_neg h0, if_neg h0]
        unfold clkAt
        rw [(hgd r (i - 1) hr (by omega)).1]
        rfl
    have he : evAt ls r i = evAt c.logs r i := by unfold evAt; rw [q1]; rfl
    have hc : clkAt ls r i = clkAt c.logs r i := by unfold clkAt; rw [q1]; rfl
    have hg : ∀ p, gotN (ls.getD r []) i p = gotN (c.L r) i p := fun p => by
      rw [hls r hr]
      unfold gotN
      rw [List.take_take, Nat.min_eq_left (by omega)]
    have hst := valid_stands hv (r := r) (by rw [hl]; exact hr) (e := (ls.getD r []).getD i ent0) (by rw [getD_lt hi]; exact List.getElem_mem hi)
    have hst : standsE (evAt ls r i) r ls.length := hst
    rw [hl] at hst
    rw [he] at hst
    obtain ⟨-, hpne, hp0, hp4, -⟩ := hst
    cases hs : (evAt c.logs r i).send with
    | true =>
      unfold rightE needC at hR ⊢
      rw [he, hb, hc]
      rw [if_pos hs] at hR ⊢
      exact hR
    | false =>
      obtain ⟨x, hx, hrx⟩ := sent_there hR hs
      unfold rightE needC
      rw [he, hb, hc, if_neg (by rw [hs]; simp), hg]
      obtain ⟨pn, hpn⟩ := Int.eq_ofNat_of_zero_le hp0
      rw [hpn] at hx hp4 hpne ⊢
      rw [Int.toNat_natCast] at hx ⊢
      have hpl : pn < 4 := by omega
      obtain ⟨ro1, ro2, ro3, ro4⟩ := recv_of hrx
      obtain ⟨to1, to2, to3⟩ := tick_of ro4
      have hx4 : x.clk.length = 4 := by
        have := List.mem_of_getElem? hx
        have hxl := (List.mem_filter.1 this).1
        obtain ⟨j, hj, rfl⟩ := List.getElem_of_mem hxl
        have := ((h.val pn hpl).2.2.2 j hj).2.2.1
        rw [show (c.L pn).getD j ent0 = (c.logs.getD pn [])[j] from getD_lt hj] at this
        omega
      have hge : x.clk.getD pn 0 ≤ (clkAt c.logs r i).getD pn 0 := by
        obtain ⟨z1, z2⟩ := zip4 (by omega : (beforeC c.logs r i).length = 4) hx4
        rw [to3, Int.toNat_natCast, getD_setG (by omega), if_neg (by omega), z2 pn hpl]
        exact Int.le_max_right _ _
      have hkn := mergeL_known hm (r := r) (i := i) (by rw [hl]; exact hr) hi pn (by
        rw [hc, to3, List.length_set, List.length_zipWith]
        omega) (by omega)
      rw [hc] at hkn
      have hsplit : sendsE (c.L pn) r = sendsE (ls.getD pn []) r ++ sendsE ((c.L pn).drop (m pn)) r := by
        rw [hls pn hpl]
        unfold sendsE
        rw [← List.filter_append, List.take_append_drop]
      have hx2 : (sendsE (c.L pn) r)[gotN (c.L r) i pn]? = some x := hx
      rw [hsplit] at hx2
      rcases Nat.lt_or_ge (gotN (c.L r) i pn) (sendsE (ls.getD pn []) r).length with g | g
      · rw [List.getElem?_append_left g] at hx2
        unfold sentC
        rw [hx2]
        exact hrx
      · rw [List.getElem?_append_right g] at hx2
        have hxd := (List.mem_filter.1 (List.mem_of_getElem? hx2)).1
        obtain ⟨j, hj, hje⟩ := List.getElem_of_mem hxd
        rw [List.length_drop] at hj
        have hj2 : m pn + j < (c.L pn).length := by omega
        have hown := ((h.val pn hpl).2.2.2 (m pn + j) hj2).2.2.2.1
        rw [getD_lt hj2, Int.toNat_natCast] at hown
        rw [List.getElem_drop] at hje
        rw [hje] at hown
        rw [hls pn hpl, List.length_take] at hkn
        omega
set_option maxRecDepth 100000 in
/-- A clock that was changed is not right. -/
theorem ConvI.changed (h : ConvI c) {r i : Nat} (hr : r < 4) (hi : i < c.len r) {e : Ent} (he : e.ev = ((c.L r).getD i ent0).ev) (hc : e.clk ≠ ((c.L r).getD i ent0).clk) : ¬ _root_.Go.Proofs.Ytbanngdijmglbaa.rightL (c.logs.set r ((c.L r).set i e)) := fun hR => by
  have hi2 : i < (c.L r).length := hi
  have hlg : ∀ q, (c.logs.set r ((c.L r).set i e)).getD q [] = if r = q then (c.L r).set i e else c.L q := fun q => getD_setG (by rw [h.l4]; exact hr)
  have h1 := hR.2.2 r (by rw [List.length_set, h.l4]; exact hr) i (by rw [hlg, if_pos rfl, List.length_set]; exact hi)
  have h2 := h.right r i hr hi
  have hgi : ((c.logs.set r ((c.L r).set i e)).getD r []).getD i ent0 = e := by rw [hlg, if_pos rfl, getD_setG hi2, if_pos rfl]
  have hev : evAt (c.logs.set r ((c.L r).set i e)) r i = evAt c.logs r i := by unfold evAt; rw [hgi, he]; rfl
  have hb : beforeC (c.logs.set r ((c.L r).set i e)) r i = beforeC c.logs r i := by
    unfold beforeC
    rw [List.length_set]
    by_cases h0 : i = 0
    · rw [if_pos h0, if_pos h0]
    · rw [if_neg h0, if_neg h0]
      unfold clkAt
      rw [hlg, if_pos rfl, getD_setG hi2, if_neg (by omega)]
      rfl
  have hck : clkAt (c.logs.set r ((c.L r).set i e)) r i = e.clk := by unfold clkAt; rw [hgi]
  have hg : ∀ p, gotN ((c.logs.set r ((c.L r).set i e)).getD r []) i p = gotN (c.L r) i p := fun p => by
    rw [hlg, if_pos rfl]
    unfold gotN
    rw [List.take_set_of_le (Nat.le_refl _)]
  have hst := ((h.val r hr).2.2.2 i hi).1
  have hst : standsE (evAt c.logs r i) r 4 := hst
  obtain ⟨-, hpne, hp0, hp4, -⟩ := hst
  have hsame : needC (c.logs.set r ((c.L r).set i e)) r i = needC c.logs r i := by
    unfold needC
    rw [hev, hb]
    by_cases hs : (evAt c.logs r i).send = true
    · rw [if_pos hs, if_pos hs]
    · rw [if_neg hs, if_neg hs, hg, hlg, if_neg (by omega)]
      rfl
  unfold rightE at h1 h2
  rw [hsame, h2, hck] at h1
  exact hc (congrArg Prod.snd h1).symm
end
end Go.Proofs.Ytbanngdijmglbaa
