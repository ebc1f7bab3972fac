/- Conversations in memory. -/
import Derived.Test.YtbanngdijmglbaaN5
import Derived.Test.YtbanngdijmglbaaLN
namespace Go.Proofs.Ytbanngdijmglbaa
open Go.RowKit

/-- A step of a conversation. -/
structure Act where
  role : Nat
  peer : Nat
  get : Bool
def actF (x : Act) : List Value := [.int .u8 x.role, .int .u8 x.peer, .bool x.get]
def eAct : El Act := ⟨actF, 3, by omega, fun _ => rfl, fun x u hu => by
  simp only [actF, List.mem_cons, List.not_mem_nil, or_false] at hu
  rcases hu with rfl | rfl | rfl <;> rfl⟩
set_option maxRecDepth 100000 in
theorem zero_of {P : Program} {T : TypeId} {z : Value} (h : (P.info? T).map (fun i => i.zero) = some (some z)) (w : World) : (zeroValue T).run P w = .ok z w := by
  obtain ⟨i, hi, hz⟩ := Option.map_eq_some_iff.1 h
  simp [zeroValue, typeInfo, hi, hz]
set_option maxRecDepth 100000 in
theorem zero_sent : (Try.prog.info? 113).map (fun i => i.zero) = some (some (.agg (List.replicate 16 (.slice none 0 0)).toArray)) := by kernel_rfl
set_option maxRecDepth 100000 in
theorem zero_got : (Try.prog.info? 115).map (fun i => i.zero) = some (some (.agg (List.replicate 16 (.int .i64 0)).toArray)) := by kernel_rfl
/-- The blocks of the rows. -/
def rowsB (vs : List Value) : List Nat := vs.flatMap fun v => v.ownBlock.toList
set_option maxRecDepth 100000 in
theorem mem_rowsB {vs : List Value} {b : Nat} : b ∈ rowsB vs ↔ ∃ (t : Nat) (v : Value), vs[t]? = some v ∧ v.ownBlock = some b := by
  unfold rowsB
  rw [List.mem_flatMap]
  constructor
  · rintro ⟨v, hv, hb⟩
    obtain ⟨t, ht⟩ := List.mem_iff_getElem?.1 hv
    exact ⟨t, v, ht, by rwa [Option.mem_toList] at hb⟩
  · rintro ⟨t, v, ht, hb⟩
    exact ⟨v, List.mem_of_getElem? ht, by rw [Option.mem_toList]; exact hb⟩
set_option maxRecDepth 100000 in
theorem rows_tr {H H' : Heap} {vs : List Value} {t : Nat} {v v' : Value} (X : List Nat) (ht : vs[t]? = some v) (gr : Grew H v H' v') : Tr (X ++ rowsB vs) H (X ++ rowsB (vs.set t v')) H' := by
  have htl : t < vs.length := (List.getElem?_eq_some_iff.1 ht).1
  refine ⟨gr.1.mono fun b hb => List.mem_append.2 (.inr (mem_rowsB.2 ⟨t, v, ht, by rwa [Option.mem_toList] at hb⟩)), fun b hb => ?_⟩
  rcases List.mem_append.1 hb with hb | hb
  · exact .inl (List.mem_append.2 (.inl hb))
  · obtain ⟨u, w, hu, e⟩ := mem_rowsB.1 hb
    rw [List.getElem?_set] at hu
    split at hu
    · obtain rfl := Option.some.inj hu
      rcases gr.2 b e with h1 | h1
      · exact .inl (List.mem_append.2 (.inr (mem_rowsB.2 ⟨t, v, ht, h1⟩)))
      · exact .inr h1
    · exact .inl (List.mem_append.2 (.inr (mem_rowsB.2 ⟨u, w, hu, e⟩)))
def slL (L : LH) : Value := .slice L.A L.l.length L.c
/-- A log that stands while the blocks of T turn. -/
structure LgM (T : List Nat) (b : Nat) (H : Heap) (L : LH) : Prop where
  own : Own eEH 72 H b (slL L) L.l
  out : ∀ g, (slL L).ownBlock = some g → g ∉ T
  clk : ∀ x ∈ L.l, RdM eInt T H x.CA x.clk
set_option maxRecDepth 100000 in
theorem LgM.tr {T T' : List Nat} {b : Nat} {H H' : Heap} {L : LH} (h : LgM T b H L) (t : Tr T H T' H') : LgM T' b H' L :=
  ⟨h.own.keep t.keep h.out, fun g e hm => by
    rcases t.new g hm with h1 | h1
    · exact h.out g e h1
    · have := (h.own.lt g e).2; omega, fun x hx => (h.clk x hx).tr t⟩
set_option maxRecDepth 100000 in
theorem LgM.rd {T : List Nat} {b : Nat} {H : Heap} {L : LH} (h : LgM T b H L) (hv : ∀ x ∈ L.l, x.ev.values = []) : LogRd H L.A L.l := ⟨(Own.rd h.own).2, fun x hx => ⟨by rw [hv x hx]; exact Rd.nil _ _, (h.clk x hx).rd⟩⟩
set_option maxRecDepth 100000 in
theorem LgM.cap {T : List Nat} {b : Nat} {H : Heap} {L : LH} (h : LgM T b H L) : L.l.length ≤ L.c := by
  obtain ⟨A, c, e, hc, -⟩ := h.own.form
  injection e with e1 e2 e3
  omega
/-- The log's block holds nothing else that is read. -/
def PairM (lhs : List LH) : Prop := ∀ (r q : Nat) (L K : LH), lhs[r]? = some L → lhs[q]? = some K → (r ≠ q → Apart (slL L) (slL K)) ∧ ∀ x ∈ K.l, x.clk ≠ [] → ∀ p, x.CA = some p → (slL L).ownBlock ≠ some p.block
set_option maxRecDepth 100000 in
theorem PairM.set {T : List Nat} {b : Nat} {H : Heap} {lhs : List LH} (h : PairM lhs) (hl : ∀ L ∈ lhs, LgM T b H L) {r : Nat} {N : LH} (h1 : ∀ g, (slL N).ownBlock = some g → H.size ≤ g) (h2 : ∀ x ∈ N.l, ∀ p, x.CA = some p → H.size ≤ p.block) (h3 : ∀ x ∈ N.l, x.clk ≠ [] → ∀ p, x.CA = some p → (slL N).ownBlock ≠ some p.block) : PairM (lhs.set r N) := by
  intro r1 q1 L K hL hK
  rw [List.getElem?_set] at hL hK
  have old : ∀ {L : LH}, L ∈ lhs → (∀ g, (slL L).ownBlock = some g → g < H.size) ∧ ∀ x ∈ L.l, x.clk ≠ [] → ∀ p, x.CA = some p → p.block < H.size := fun hm => ⟨fun g e => ((hl _ hm).own.lt g e).2, fun x hx hne p e => by
    obtain ⟨q, e', hq⟩ := ((hl _ hm).clk x hx).rd.lt (List.length_pos_iff.2 hne)
    rw [e] at e'
    obtain rfl := Option.some.inj e'
    exact hq⟩
  by_cases e1 : r = r1
  · rw [if_pos e1] at hL
    split at hL
    · obtain rfl := Option.some.inj hL
      by_cases e2 : r = q1
      · rw [if_pos e2] at hK
        rename_i hrl
        rw [if_pos hrl] at hK
        obtain rfl := Option.some.inj hK
        exact ⟨fun hne => absurd (e1.symm.trans e2) hne, h3⟩
      · rw [if_neg e2] at hK
        obtain ⟨o1, o2⟩ := old (List.mem_of_getElem? hK)
        exact ⟨fun _ g hg hg2 => by have := h1 g hg; have := o1 g hg2; omega, fun x hx hne p e hb => by have := h1 _ hb; have := o2 x hx hne p e; omega⟩
    · cases hL
  · rw [if_neg e1] at hL
    obtain ⟨o1, o2⟩ := old (List.mem_of_getElem? hL)
    by_cases e2 : r = q1
    · rw [if_pos e2] at hK
      split at hK
      · obtain rfl := Option.some.inj hK
        exact ⟨fun _ g hg hg2 => by have := h1 g hg2; have := o1 g hg; omega, fun x hx _ p e hb => by have := o1 _ hb; have := h2 x hx p e; omega⟩
      · cases hK
    · rw [if_neg e2] at hK
      exact h r1 q1 L K hL hK
/-- The conversation in memory: the slice of the logs at gL, the arrays at g6 and g7, the slices of the messages, of the order and of the rows in ws. -/
structure CM (X : List Nat) (gL g6 g7 b : Nat) (ws : List Value) (lhs : List LH) (hs : List Hdr) (c : Conv) (H : Heap) : Prop where
  o1 : gL < g6
  o2 : g6 < g7
  o3 : g7 < b
  w18 : ws.length = 18
  logs : Own eLH 35 H 0 (.slice (some ⟨gL, 0, none⟩) 4 4) lhs
  l4 : lhs.length = 4
  lmap : entsL lhs = c.logs
  lg : ∀ L ∈ lhs, LgM (X ++ [gL, g6, g7] ++ rowsB ws) b H L
  pr : PairM lhs
  sent : Blk H g6 (ws.take 16) 113
  got : Blk H g7 (c.got.map fun n : Nat => .int .i64 n) 115
  rows : ∀ (t : Nat) (v : Value), t < 16 → ws[t]? = some v → Own eInt 3 H b v (tI (c.sent.getD t []))
  ord : ∀ v : Value, ws[16]? = some v → Own ePl 64 H b v c.order
  bef : ∀ v : Value, ws[17]? = some v → Own eHdr 69 H b v hs
  brd : All2 (fun (x : Hdr) row => x.2.1 = row.length ∧ RdM eBool (X ++ [gL, g6, g7] ++ rowsB ws) H x.1 row) hs c.before
  ap : ∀ (t u : Nat) (v w : Value), t ≠ u → ws[t]? = some v → ws[u]? = some w → Apart v w
  xs : ∀ x ∈ X, x < H.size ∧ b ≤ x ∧ ∀ (t : Nat) (v : Value), ws[t]? = some v → v.ownBlock ≠ some x
section
variable {X : List Nat} {gL g6 g7 b : Nat} {ws : List Value} {lhs : List LH} {hs : List Hdr} {c : Conv} {H H' : Heap}
set_option maxRecDepth 100000 in
theorem CM.lts (h : CM X gL g6 g7 b ws lhs hs c H) : gL < H.size ∧ g6 < H.size ∧ g7 < H.size := ⟨(h.logs.lt gL rfl).2, h.sent.lt, h.got.lt⟩
set_option maxRecDepth 100000 in
theorem CM.wlt (h : CM X gL g6 g7 b ws lhs hs c H) {t : Nat} {v : Value} (ht : ws[t]? = some v) : ∀ g, v.ownBlock = some g → b ≤ g ∧ g < H.size := by
  have := h.w18
  have htl := (List.getElem?_eq_some_iff.1 ht).1
  rcases Nat.lt_or_ge t 16 with g | g
  · exact (h.rows t v g ht).lt
  · rcases (show t = 16 ∨ t = 17 by omega) with rfl | rfl
    · exact (h.ord v ht).lt
    · exact (h.bef v ht).lt
set_option maxRecDepth 100000 in
theorem CM.tlt (h : CM X gL g6 g7 b ws lhs hs c H) : ∀ x ∈ X ++ [gL, g6, g7] ++ rowsB ws, x < H.size := fun x hx => by
  obtain ⟨h1, h2, h3⟩ := h.lts
  rcases List.mem_append.1 hx with hx | hx
  · rcases List.mem_append.1 hx with hx | hx
    · exact (h.xs x hx).1
    rcases (show x = gL ∨ x = g6 ∨ x = g7 by simpa using hx) with rfl | rfl | rfl
    · exact h1
    · exact h2
    · exact h3
  · obtain ⟨t, v, ht, e⟩ := mem_rowsB.1 hx
    exact (h.wlt ht x e).2
set_option maxRecDepth 100000 in
theorem CM.ext (h : CM X gL g6 g7 b ws lhs hs c H) (hx : Ext H H') : CM X gL g6 g7 b ws lhs hs c H' :=
  ⟨h.o1, h.o2, h.o3, h.w18, h.logs.ext hx, h.l4, h.lmap, fun L hL => (h.lg L hL).tr (Tr.of_ext hx _), h.pr, h.sent.ext hx, h.got.ext hx, fun t v ht hv => (h.rows t v ht hv).ext hx, fun v hv => (h.ord v hv).ext hx, fun v hv => (h.bef v hv).ext hx,
    h.brd.mono fun _ _ hr => ⟨hr.1, hr.2.tr (Tr.of_ext hx _)⟩, h.ap, fun x hm => ⟨Nat.lt_of_lt_of_le (h.xs x hm).1 hx.size, (h.xs x hm).2⟩⟩
set_option maxRecDepth 100000 in
theorem CM.apart_set (h : CM X gL g6 g7 b ws lhs hs c H) {t : Nat} {v v' : Value} (ht : ws[t]? = some v) (gr : Grew H v H' v') : ∀ (r u : Nat) (x w : Value), r ≠ u → (ws.set t v')[r]? = some x → (ws.set t v')[u]? = some w → Apart x w := by
  have htl := (List.getElem?_eq_some_iff.1 ht).1
  have other : ∀ (u : Nat) (w : Value), t ≠ u → ws[u]? = some w → Apart w v' := fun u w hne hw g hg hg2 => by
    rcases gr.2 g hg2 with h1 | h1
    · exact h.ap t u v w hne ht hw g h1 hg
    · have := (h.wlt hw g hg).2; omega
  intro r u x w hne hx hw
  rw [List.getElem?_set] at hx hw
  by_cases e1 : t = r
  · rw [if_pos e1, if_pos htl] at hx
    obtain rfl := Option.some.inj hx
    rw [if_neg (by omega)] at hw
    exact (other u w (by omega) hw).symm
  · rw [if_neg e1] at hx
    by_cases e2 : t = u
    · rw [if_pos e2, if_pos htl] at hw
      obtain rfl := Option.some.inj hw
      exact other r x e1 hx
    · rw [if_neg e2] at hw
      exact h.ap r u x w hne hx hw
set_option maxRecDepth 100000 in
theorem CM.xs_set (h : CM X gL g6 g7 b ws lhs hs c H) {t : Nat} {v v' : Value} (ht : ws[t]? = some v) (gr : Grew H v H' v') : ∀ x ∈ X, x < H'.size ∧ b ≤ x ∧ ∀ (u : Nat) (w : Value), (ws.set t v')[u]? = some w → w.ownBlock ≠ some x := fun x hm => by
  obtain ⟨h1, h2, h3⟩ := h.xs x hm
  refine ⟨Nat.lt_of_lt_of_le h1 gr.1.size, h2, fun u w hw e => ?_⟩
  rw [List.getElem?_set] at hw
  by_cases e1 : t = u
  · rw [if_pos e1, if_pos (List.getElem?_eq_some_iff.1 ht).1] at hw
    obtain rfl := Option.some.inj hw
    rcases gr.2 x e with h4 | h4
    · exact h3 t v ht h4
    · omega
  · rw [if_neg e1] at hw
    exact h3 u w hw e
set_option maxRecDepth 100000 in
theorem CM.xs_keep {M : List Nat} (h : CM X gL g6 g7 b ws lhs hs c H) (hK : Keep M H H') : ∀ x ∈ X, x < H'.size ∧ b ≤ x ∧ ∀ (u : Nat) (w : Value), ws[u]? = some w → w.ownBlock ≠ some x := fun x hm => ⟨Nat.lt_of_lt_of_le (h.xs x hm).1 hK.size, (h.xs x hm).2⟩
set_option maxRecDepth 100000 in
/-- A message is noted. -/
theorem CM.sentA {H1 H2 : Heap} (h : CM X gL g6 g7 b ws lhs hs c H) {t k : Nat} {v v' : Value} (h16 : t < 16) (ht : ws[t]? = some v) (gr : Grew H v H1 v') (ho : Own eInt 3 H1 b v' (tI (c.sent.getD t [] ++ [k]))) (hl : c.sent.length = 16)
    (hK : Keep [g6] H1 H2) (hB : Blk H2 g6 ((ws.take 16).set t v') 113) : CM X gL g6 g7 b (ws.set t v') lhs hs { c with sent := c.sent.set t (c.sent.getD t [] ++ [k]) } H2 := by
  have vb := h.wlt ht
  have h18 := h.w18
  obtain ⟨l1, l2, l3⟩ := h.lts
  have o1 := h.o1
  have o2 := h.o2
  have o3 := h.o3
  have z1 := gr.1.size
  have t1 := rows_tr (X ++ [gL, g6, g7]) ht gr
  have t2 : Tr (X ++ [gL, g6, g7] ++ rowsB (ws.set t v')) H1 (X ++ [gL, g6, g7] ++ rowsB (ws.set t v')) H2 := Tr.store hK (by simp)
  have tt := t1.trans t2
  have nv : ∀ g, (g = gL ∨ g = g6 ∨ g = g7) → g ∉ v.ownBlock.toList := fun g hg hm => by
    rw [Option.mem_toList] at hm
    have := (vb g hm).1
    omega
  have app := h.apart_set ht gr
  have own6 : ∀ {x : Value}, (∀ g, x.ownBlock = some g → b ≤ g) → ∀ g, x.ownBlock = some g → g ∉ [g6] := fun hx g e hm => by
    have := hx g e
    simp at hm
    omega
  refine ⟨h.o1, h.o2, h.o3, by rw [List.length_set]; exact h18, (h.logs.keep gr.1 fun g e => nv g (.inl (Option.some.inj e).symm)).keep hK fun g e => by have : gL = g := Option.some.inj e; simp; omega, h.l4, h.lmap, fun L hL => (h.lg L hL).tr tt, h.pr, ?_, (h.got.keep gr.1 (nv _ (.inr (.inr rfl)))).keep hK (by simp; omega), fun u x hu hx => ?_, fun x hx => ?_, fun x hx => ?_, h.brd.mono fun _ _ hr => ⟨hr.1, hr.2.tr tt⟩, app, fun x hm => ⟨Nat.lt_of_lt_of_le (h.xs_set ht gr x hm).1 hK.size, (h.xs_set ht gr x hm).2⟩⟩
  · rw [List.take_set]
    exact hB
  · rw [List.getElem?_set] at hx
    show Own _ _ _ _ _ (tI ((c.sent.set t _).getD u []))
    rw [getD_setG (by omega)]
    by_cases e : t = u
    · rw [if_pos e, if_pos (by omega)] at hx
      obtain rfl := Option.some.inj hx
      rw [if_pos e]
      exact ho.keep hK (own6 fun g e => (ho.lt g e).1)
    · rw [if_neg e] at hx ⊢
      have o := h.rows u x hu hx
      exact (o.grew gr (h.ap t u v x e ht hx)).keep hK (own6 fun g e => (o.lt g e).1)
  · rw [List.getElem?_set, if_neg (by omega)] at hx
    have o := h.ord x hx
    exact (o.grew gr (h.ap t 16 v x (by omega) ht hx)).keep hK (own6 fun g e => (o.lt g e).1)
  · rw [List.getElem?_set, if_neg (by omega)] at hx
    have o := h.bef x hx
    exact (o.grew gr (h.ap t 17 v x (by omega) ht hx)).keep hK (own6 fun g e => (o.lt g e).1)
set_option maxRecDepth 100000 in
/-- The number of the messages that were received. -/
theorem CM.gotA (h : CM X gL g6 g7 b ws lhs hs c H) {got : List Nat} (hK : Keep [g7] H H') (hB : Blk H' g7 (got.map fun n : Nat => .int .i64 n) 115) : CM X gL g6 g7 b ws lhs hs { c with got := got } H' := by
  have o1 := h.o1
  have o2 := h.o2
  have o3 := h.o3
  have tt : Tr (X ++ [gL, g6, g7] ++ rowsB ws) H (X ++ [gL, g6, g7] ++ rowsB ws) H' := Tr.store hK (by simp)
  have own7 : ∀ {x : Value}, (∀ g, x.ownBlock = some g → b ≤ g) → ∀ g, x.ownBlock = some g → g ∉ [g7] := fun hx g e hm => by
    have := hx g e
    simp at hm
    omega
  exact ⟨h.o1, h.o2, h.o3, h.w18, h.logs.keep hK fun g e => by have : gL = g := Option.some.inj e; simp; omega, h.l4, h.lmap, fun L hL => (h.lg L hL).tr tt, h.pr, h.sent.keep hK (by simp; omega), hB,
    fun t v ht hv => (h.rows t v ht hv).keep hK (own7 fun g e => ((h.rows t v ht hv).lt g e).1), fun v hv => (h.ord v hv).keep hK (own7 fun g e => ((h.ord v hv).lt g e).1), fun v hv => (h.bef v hv).keep hK (own7 fun g e => ((h.bef v hv).lt g e).1),
    h.brd.mono fun _ _ hr => ⟨hr.1, hr.2.tr tt⟩, h.ap, h.xs_keep hK⟩
set_option maxRecDepth 100000 in
/-- An entry has its place. -/
theorem CM.ordA (h : CM X gL g6 g7 b ws lhs hs c H) {v v' : Value} {p : Nat × Nat} (ht : ws[16]? = some v) (gr : Grew H v H' v') (ho : Own ePl 64 H' b v' (c.order ++ [p])) : CM X gL g6 g7 b (ws.set 16 v') lhs hs { c with order := c.order ++ [p] } H' := by
  have vb := h.wlt ht
  have h18 := h.w18
  have o1 := h.o1
  have o2 := h.o2
  have o3 := h.o3
  have tt := rows_tr (X ++ [gL, g6, g7]) ht gr
  have nv : ∀ g, (g = gL ∨ g = g6 ∨ g = g7) → g ∉ v.ownBlock.toList := fun g hg hm => by
    rw [Option.mem_toList] at hm
    have := (vb g hm).1
    omega
  refine ⟨h.o1, h.o2, h.o3, by rw [List.length_set]; exact h18, h.logs.keep gr.1 fun g e => nv g (.inl (Option.some.inj e).symm), h.l4, h.lmap, fun L hL => (h.lg L hL).tr tt, h.pr, ?_, h.got.keep gr.1 (nv _ (.inr (.inr rfl))), fun u x hu hx => ?_, fun x hx => ?_, fun x hx => ?_, h.brd.mono fun _ _ hr => ⟨hr.1, hr.2.tr tt⟩, h.apart_set ht gr, h.xs_set ht gr⟩
  · rw [List.take_set_of_le (Nat.le_refl _)]
    exact h.sent.keep gr.1 (nv _ (.inr (.inl rfl)))
  · rw [List.getElem?_set, if_neg (by omega)] at hx
    exact (h.rows u x hu hx).grew gr (h.ap 16 u v x (by omega) ht hx)
  · rw [List.getElem?_set, if_pos rfl, if_pos (by omega)] at hx
    obtain rfl := Option.some.inj hx
    exact ho
  · rw [List.getElem?_set, if_neg (by omega)] at hx
    exact (h.bef x hx).grew gr (h.ap 16 17 v x (by omega) ht hx)
set_option maxRecDepth 100000 in
/-- A row is noted. -/
theorem CM.befA (h : CM X gL g6 g7 b ws lhs hs c H) {v v' : Value} {y : Hdr} {row : List Bool} (ht : ws[17]? = some v) (gr : Grew H v H' v') (ho : Own eHdr 69 H' b v' (hs ++ [y])) (hy : y.2.1 = row.length) (hr : RdM eBool (X ++ [gL, g6, g7] ++ rowsB ws) H y.1 row) : CM X gL g6 g7 b (ws.set 17 v') lhs (hs ++ [y]) { c with before := c.before ++ [row] } H' := by
  have vb := h.wlt ht
  have h18 := h.w18
  have o1 := h.o1
  have o2 := h.o2
  have o3 := h.o3
  have tt := rows_tr (X ++ [gL, g6, g7]) ht gr
  have nv : ∀ g, (g = gL ∨ g = g6 ∨ g = g7) → g ∉ v.ownBlock.toList := fun g hg hm => by
    rw [Option.mem_toList] at hm
    have := (vb g hm).1
    omega
  refine ⟨h.o1, h.o2, h.o3, by rw [List.length_set]; exact h18, h.logs.keep gr.1 fun g e => nv g (.inl (Option.some.inj e).symm), h.l4, h.lmap, fun L hL => (h.lg L hL).tr tt, h.pr, ?_, h.got.keep gr.1 (nv _ (.inr (.inr rfl))), fun u x hu hx => ?_, fun x hx => ?_, fun x hx => ?_, (h.brd.mono fun _ _ hr => ⟨hr.1, hr.2.tr tt⟩).snoc ⟨hy, hr.tr tt⟩, h.apart_set ht gr, h.xs_set ht gr⟩
  · rw [List.take_set_of_le (by decide)]
    exact h.sent.keep gr.1 (nv _ (.inr (.inl rfl)))
  · rw [List.getElem?_set, if_neg (by omega)] at hx
    exact (h.rows u x hu hx).grew gr (h.ap 17 u v x (by omega) ht hx)
  · rw [List.getElem?_set, if_neg (by omega)] at hx
    exact (h.ord x hx).grew gr (h.ap 17 16 v x (by omega) ht hx)
  · rw [List.getElem?_set, if_pos rfl, if_pos (by omega)] at hx
    obtain rfl := Option.some.inj hx
    exact ho
set_option maxRecDepth 100000 in
/-- A log is put in its place. -/
theorem CM.logA (h : CM X gL g6 g7 b ws lhs hs c H) {r : Nat} {N : LH} (hK : Keep [gL] H H') (ho : Own eLH 35 H' 0 (.slice (some ⟨gL, 0, none⟩) 4 4) (lhs.set r N)) (hN : LgM (X ++ [gL, g6, g7] ++ rowsB ws) b H N) (hp : PairM (lhs.set r N)) : CM X gL g6 g7 b ws (lhs.set r N) hs { c with logs := c.logs.set r N.ents } H' := by
  have o1 := h.o1
  have o2 := h.o2
  have o3 := h.o3
  have tt : Tr (X ++ [gL, g6, g7] ++ rowsB ws) H (X ++ [gL, g6, g7] ++ rowsB ws) H' := Tr.store hK (by simp)
  have ownL : ∀ {x : Value}, (∀ g, x.ownBlock = some g → b ≤ g) → ∀ g, x.ownBlock = some g → g ∉ [gL] := fun hx g e hm => by
    have := hx g e
    simp at hm
    omega
  refine ⟨h.o1, h.o2, h.o3, h.w18, ho, by rw [List.length_set]; exact h.l4, ?_, fun L hL => ?_, hp, h.sent.keep hK (by simp; omega), h.got.keep hK (by simp; omega),
    fun t v ht hv => (h.rows t v ht hv).keep hK (ownL fun g e => ((h.rows t v ht hv).lt g e).1), fun v hv => (h.ord v hv).keep hK (ownL fun g e => ((h.ord v hv).lt g e).1), fun v hv => (h.bef v hv).keep hK (ownL fun g e => ((h.bef v hv).lt g e).1),
    h.brd.mono fun _ _ hr => ⟨hr.1, hr.2.tr tt⟩, h.ap, h.xs_keep hK⟩
  · show entsL (lhs.set r N) = c.logs.set r N.ents
    unfold entsL
    rw [List.map_set, ← h.lmap]
    rfl
  · rcases List.mem_or_eq_of_mem_set hL with hL | rfl
    · exact (h.lg L hL).tr tt
    · exact hN.tr tt
set_option maxRecDepth 100000 in
/-- A further block may turn. -/
theorem CM.addX (h : CM X gL g6 g7 b ws lhs hs c H) (hb : b ≤ H.size) (hx : Ext H H') {g : Nat} (hg : H.size ≤ g) (hg2 : g < H'.size) : CM (g :: X) gL g6 g7 b ws lhs hs c H' := by
  have tt : Tr (X ++ [gL, g6, g7] ++ rowsB ws) H (g :: X ++ [gL, g6, g7] ++ rowsB ws) H' := Tr.add hx fun x hm => by
    rw [List.cons_append, List.cons_append] at hm
    rcases List.mem_cons.1 hm with rfl | hm
    · exact .inr hg
    · exact .inl hm
  have h' := h.ext hx
  exact ⟨h.o1, h.o2, h.o3, h.w18, h'.logs, h.l4, h.lmap, fun L hL => (h.lg L hL).tr tt, h.pr, h'.sent, h'.got, h'.rows, h'.ord, h'.bef, h.brd.mono fun _ _ hr => ⟨hr.1, hr.2.tr tt⟩, h.ap, fun x hm => by
    rcases List.mem_cons.1 hm with rfl | hm
    · exact ⟨hg2, by omega, fun t v ht e => by have := (h.wlt ht _ e).2; omega⟩
    · exact h'.xs x hm⟩
set_option maxRecDepth 100000 in
theorem CM.keepX (h : CM X gL g6 g7 b ws lhs hs c H) (hK : Keep X H H') : CM X gL g6 g7 b ws lhs hs c H' := by
  have o1 := h.o1
  have o2 := h.o2
  have o3 := h.o3
  have tt : Tr (X ++ [gL, g6, g7] ++ rowsB ws) H (X ++ [gL, g6, g7] ++ rowsB ws) H' := Tr.of_keep (hK.mono fun x hm => by simp [hm])
  have nx : ∀ g, g < b → g ∉ X := fun g hg hm => by have := (h.xs g hm).2.1; omega
  have nw : ∀ (t : Nat) (v : Value), ws[t]? = some v → ∀ g, v.ownBlock = some g → g ∉ X := fun t v ht g e hm => (h.xs g hm).2.2 t v ht e
  exact ⟨h.o1, h.o2, h.o3, h.w18, h.logs.keep hK fun g e => by have : gL = g := Option.some.inj e; exact nx g (by omega), h.l4, h.lmap, fun L hL => (h.lg L hL).tr tt, h.pr, h.sent.keep hK (nx _ (by omega)), h.got.keep hK (nx _ (by omega)),
    fun t v ht hv => (h.rows t v ht hv).keep hK (nw t v hv), fun v hv => (h.ord v hv).keep hK (nw 16 v hv), fun v hv => (h.bef v hv).keep hK (nw 17 v hv), h.brd.mono fun _ _ hr => ⟨hr.1, hr.2.tr tt⟩, h.ap, h.xs_keep hK⟩
set_option maxRecDepth 100000 in
theorem CM.dropX {g : Nat} (h : CM (g :: X) gL g6 g7 b ws lhs hs c H) : CM X gL g6 g7 b ws lhs hs c H := by
  have tt : Tr (g :: X ++ [gL, g6, g7] ++ rowsB ws) H (X ++ [gL, g6, g7] ++ rowsB ws) H := Tr.sub H fun x hm => by
    rw [List.cons_append, List.cons_append]
    exact List.mem_cons_of_mem _ hm
  exact ⟨h.o1, h.o2, h.o3, h.w18, h.logs, h.l4, h.lmap, fun L hL => (h.lg L hL).tr tt, h.pr, h.sent, h.got, h.rows, h.ord, h.bef, h.brd.mono fun _ _ hr => ⟨hr.1, hr.2.tr tt⟩, h.ap, fun x hm => h.xs x (List.mem_cons_of_mem _ hm)⟩
set_option maxRecDepth 100000 in
theorem CM.cast {c' : Conv} (h : CM X gL g6 g7 b ws lhs hs c H) (e : c = c') : CM X gL g6 g7 b ws lhs hs c' H := e ▸ h
set_option maxRecDepth 100000 in
theorem CM.notT {g : Nat} (h : CM (g :: X) gL g6 g7 b ws lhs hs c H) : g ∉ [] ++ [gL, g6, g7] ++ rowsB ws := fun hm => by
  have o1 := h.o1
  have o2 := h.o2
  have o3 := h.o3
  obtain ⟨-, h2, h3⟩ := h.xs g (.head _)
  rcases List.mem_append.1 hm with hm | hm
  · simp at hm
    omega
  · obtain ⟨t, v, ht, e⟩ := mem_rowsB.1 hm
    exact h3 t v ht e
set_option maxRecDepth 100000 in
theorem CM.rdLogs (h : CM X gL g6 g7 b ws lhs hs c H) (hI : ∀ r, r < 4 → ∀ e ∈ c.L r, e.ev.label = 0 ∧ e.ev.values = []) : LogsRd H (some ⟨gL, 0, none⟩) lhs := ⟨(Own.rd h.logs).2, fun L hL => (h.lg L hL).rd fun x hx => by
  obtain ⟨r, hr, rfl⟩ := List.getElem_of_mem hL
  have h1 := entsL_get hr
  rw [h.lmap] at h1
  refine (hI r (by rw [← h.l4]; exact hr) x.ent ?_).2
  show x.ent ∈ c.logs.getD r []
  rw [h1]
  exact List.mem_map_of_mem hx⟩
set_option maxRecDepth 100000 in
theorem CM.at_ (h : CM X gL g6 g7 b ws lhs hs c H) {r : Nat} (hr : r < 4) : ∃ L, lhs[r]? = some L ∧ L ∈ lhs ∧ L.l.map EH.ent = c.L r := by
  have hl : r < lhs.length := by rw [h.l4]; exact hr
  refine ⟨lhs[r], List.getElem?_eq_getElem hl, List.getElem_mem hl, ?_⟩
  have h1 := entsL_get hl
  rw [h.lmap] at h1
  exact h1.symm
set_option maxRecDepth 100000 in
theorem ConvI.sm (hI : ConvI c) {r : Nat} (hr : r < 4) {l : List EH} (h : l.map EH.ent = c.L r) : LogSm l := by
  have hv := hI.val r hr
  have hl : l.length = (c.L r).length := by rw [← h, List.length_map]
  refine ⟨by have := hv.2.2.1; omega, fun x hx => ?_⟩
  have hm : x.ent ∈ c.L r := by rw [← h]; exact List.mem_map_of_mem hx
  obtain ⟨i, hi, e⟩ := List.getElem_of_mem hm
  have h1 := (hv.2.2.2 i hi).2.2.1
  rw [getD_lt hi, e] at h1
  have h2 := (hI.lab r hr _ hm).2
  have h2 : x.ev.values = [] := h2
  have h1 : ((x.clk.length : Nat) : Int) = 4 := h1
  rw [h2]
  exact ⟨Nat.zero_le _, by omega⟩
end
end Go.Proofs.Ytbanngdijmglbaa
