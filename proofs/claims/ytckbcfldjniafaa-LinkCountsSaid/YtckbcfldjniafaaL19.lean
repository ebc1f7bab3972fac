/- LinkCounts, its mathematics: what is expected at each time; the rows of an array of slices. -/
import Derived.Test.YtckbcfldjniafaaL18
namespace Go.Proofs.Ytckbcfldjniafaa
open Go.ChangeShapes Go.WideShapes Go.ChangeAt Go.RowKit Go.Deep

/-- The packets that arrive at a time. -/
def due (f : List Fl) (t : Int) : List (List UInt8) := (f.filter fun x => decide (x.1 = t)).map (·.2)
set_option maxRecDepth 100000 in
theorem due_append (f g : List Fl) (t : Int) : due (f ++ g) t = due f t ++ due g t := by
  unfold due
  rw [List.filter_append, List.map_append]
set_option maxRecDepth 100000 in
theorem due_none {f : List Fl} {t : Int} (h : ∀ x ∈ f, x.1 ≠ t) : due f t = [] := by
  unfold due
  rw [List.filter_eq_nil_iff.2 fun x hx => by simpa using h x hx]
  rfl
set_option maxRecDepth 100000 in
theorem due_all {f : List Fl} {t : Int} (h : ∀ x ∈ f, x.1 = t) : due f t = f.map (·.2) := by
  unfold due
  rw [List.filter_eq_self.2 fun x hx => by simpa using h x hx]
set_option maxRecDepth 100000 in
theorem due_len (f : List Fl) (t : Int) : (due f t).length ≤ f.length := by
  unfold due
  rw [List.length_map]
  exact List.length_filter_le _ _
set_option maxRecDepth 100000 in
/-- What stands behind the first that is later is later. -/
theorem dw_gt {f : List Fl} {n : Int} (h : f.Pairwise fun a b => a.1 ≤ b.1) : ∀ x ∈ f.dropWhile (fun y => decide (y.1 ≤ n)), n < x.1 := by
  induction f with
  | nil => simp
  | cons a f ih =>
    intro x hx
    rw [List.pairwise_cons] at h
    rw [List.dropWhile_cons] at hx
    split at hx
    · exact ih h.2 x hx
    · rename_i ha
      have ha : n < a.1 := by simpa using ha
      rcases List.mem_cons.1 hx with rfl | hx
      · exact ha
      · have := h.1 x hx
        omega
set_option maxRecDepth 100000 in
theorem due_ins {now : Int} {f : List Fl} (h : GoodF now f) (hl : f.length < 300) (x : Fl) (t : Int) : due (insF f x) t = due f t ++ if x.1 = t then [x.2] else [] := by
  unfold insF
  rw [if_neg (by omega)]
  have e : f = f.takeWhile (fun f => decide (f.1 ≤ x.1)) ++ f.dropWhile (fun f => decide (f.1 ≤ x.1)) := (List.takeWhile_append_dropWhile).symm
  have e2 : due f t = due (f.takeWhile (fun f => decide (f.1 ≤ x.1))) t ++ due (f.dropWhile (fun f => decide (f.1 ≤ x.1))) t := by rw [← due_append, ← e]
  rw [due_append, e2, show x :: f.dropWhile (fun f => decide (f.1 ≤ x.1)) = [x] ++ f.dropWhile (fun f => decide (f.1 ≤ x.1)) from rfl, due_append]
  by_cases ht : x.1 = t
  · have hd : due (f.dropWhile (fun f => decide (f.1 ≤ x.1))) t = [] := due_none fun y hy => by
      have := dw_gt h.srt y hy
      omega
    rw [if_pos ht, hd, List.append_nil, List.append_nil]
    congr 1
    exact due_all fun y hy => by simp at hy; rw [hy]; exact ht
  · rw [if_neg ht, List.append_nil]
    congr 1
    rw [due_none (f := [x]) fun y hy => by simp at hy; rw [hy]; exact ht]
    rfl
/-- What is expected is what is in flight. -/
def ExpOk (now : Int) (es : List (List (List UInt8))) (f : List Fl) : Prop := ∀ t : Nat, now < t → t < 400 → es.getD t [] = due f t
def addE (now : Int) (d : List UInt8) (ds : List Int) (es : List (List (List UInt8))) : List (List (List UInt8)) := ds.foldl (fun es t => es.set (now + t).toNat (es.getD (now + t).toNat [] ++ [d])) es
set_option maxRecDepth 100000 in
theorem addE_len (now : Int) (d : List UInt8) : ∀ (ds : List Int) (es : List (List (List UInt8))), (addE now d ds es).length = es.length
  | [], _ => rfl
  | t :: ds, es => by
    show (addE now d ds (es.set _ _)).length = _
    rw [addE_len now d ds, List.length_set]
set_option maxRecDepth 100000 in
theorem addE_take {now : Int} {d : List UInt8} {ds : List Int} {k : Nat} (hk : k < ds.length) (es : List (List (List UInt8))) : addE now d (ds.take (k + 1)) es = (addE now d (ds.take k) es).set (now + ds[k]).toNat ((addE now d (ds.take k) es).getD (now + ds[k]).toNat [] ++ [d]) := by
  unfold addE
  rw [List.take_succ_eq_append_getElem hk, List.foldl_append]
  rfl
set_option maxRecDepth 100000 in
theorem getD_set {α : Type} {l : List α} {i j : Nat} {v z : α} (h : i < l.length) : (l.set i v).getD j z = if i = j then v else l.getD j z := by
  rw [List.getD_eq_getElem?_getD, List.getD_eq_getElem?_getD, List.getElem?_set]
  by_cases e : i = j
  · subst e
    rw [if_pos rfl, if_pos rfl, if_pos h]
    rfl
  · rw [if_neg e, if_neg e]
set_option maxRecDepth 100000 in
theorem expOk_put {now : Int} (hn : 0 ≤ now ∧ now ≤ 300) {d : List UInt8} (hd : d.length ≤ 1000) : ∀ (ds : List Int) {es : List (List (List UInt8))} {f : List Fl}, es.length = 400 → GoodF now f → f.length + ds.length ≤ 300 → (∀ t ∈ ds, 1 ≤ t ∧ t ≤ 8) → ExpOk now es f → ExpOk now (addE now d ds es) (putAll now d ds f)
  | [], es, f, _, _, _, _, h => h
  | u :: ds, es, f, hl, hg, hf, hr, h => by
    obtain ⟨hu1, hu2⟩ := hr u (by simp)
    have hlt : (now + u).toNat < es.length := by omega
    have hfl : f.length < 300 := by simp only [List.length_cons] at hf; omega
    refine expOk_put hn hd ds (es := es.set (now + u).toNat (es.getD (now + u).toNat [] ++ [d])) (f := insF f (now + u, d)) (by rw [List.length_set]; exact hl) (hg.ins ⟨by show now < now + u; omega, by show now + u ≤ now + 8; omega, hd⟩) (by have := insF_len (f := f) (x := (now + u, d)); simp only [List.length_cons] at hf; omega) (fun t ht => hr t (by simp [ht])) fun t ht ht4 => ?_
    rw [due_ins hg hfl, getD_set hlt]
    by_cases e : (now + u).toNat = t
    · rw [if_pos e, if_pos (show now + u = (t : Int) by omega), e, h t ht ht4]
    · rw [if_neg e, if_neg (show ¬ now + u = (t : Int) by omega), List.append_nil, h t ht ht4]
set_option maxRecDepth 100000 in
theorem expOk_tick {now : Int} {es : List (List (List UInt8))} {f : List Fl} (hn : 0 ≤ now ∧ now ≤ 300) (hg : GoodF now f) (h : ExpOk now es f) : (f.takeWhile fun x => decide (x.1 = now + 1)).map (·.2) = es.getD (now + 1).toNat [] ∧ ExpOk (now + 1) es (f.dropWhile fun x => decide (x.1 = now + 1)) := by
  have e : f = f.takeWhile (fun x => decide (x.1 = now + 1)) ++ f.dropWhile (fun x => decide (x.1 = now + 1)) := (List.takeWhile_append_dropWhile).symm
  have hp : ∀ x ∈ f, (decide (x.1 = now + 1)) = decide (x.1 ≤ now + 1) := fun x hx => by
    have := (hg.rng x hx).1
    rw [decide_eq_decide]
    omega
  have etw : ∀ l : List Fl, (∀ x ∈ l, (decide (x.1 = now + 1)) = decide (x.1 ≤ now + 1)) → l.dropWhile (fun x => decide (x.1 = now + 1)) = l.dropWhile (fun x => decide (x.1 ≤ now + 1)) := by
    intro l
    induction l with
    | nil => intro _; rfl
    | cons a l ih =>
      intro hl
      rw [List.dropWhile_cons, List.dropWhile_cons, hl a (by simp), ih fun x hx => hl x (by simp [hx])]
  have hdw : ∀ x ∈ f.dropWhile (fun x => decide (x.1 = now + 1)), now + 1 < x.1 := by
    rw [etw f hp]
    exact dw_gt hg.srt
  have htw : ∀ x ∈ f.takeWhile (fun x => decide (x.1 = now + 1)), x.1 = now + 1 := fun x hx => by
    have := mem_tw hx
    simpa using this
  have e2 : ∀ t : Int, due f t = due (f.takeWhile (fun x => decide (x.1 = now + 1))) t ++ due (f.dropWhile (fun x => decide (x.1 = now + 1))) t := fun t => by rw [← due_append, ← e]
  constructor
  · have ht : ((now + 1).toNat : Int) = now + 1 := by omega
    rw [h (now + 1).toNat (by omega) (by omega), ht, e2, due_all htw, due_none (f := f.dropWhile _) fun x hx => by have := hdw x hx; omega, List.append_nil]
  · intro t ht ht4
    rw [h t (by omega) ht4, e2, due_none (f := f.takeWhile _) fun x hx => by have := htw x hx; omega, List.nil_append]
/-- The blocks of the rows. -/
def rowsB (vs : List Value) : List Nat := vs.flatMap fun v => v.ownBlock.toList
set_option maxRecDepth 100000 in
theorem mem_rowsB {vs : List Value} {b : Nat} : b ∈ rowsB vs ↔ ∃ (t : Nat) (v : Value), vs[t]? = some v ∧ v.ownBlock = some b := by
  unfold rowsB
  rw [List.mem_flatMap]
  constructor
  · rintro ⟨v, hv, hb⟩
    obtain ⟨t, ht⟩ := List.mem_iff_getElem?.1 hv
    exact ⟨t, v, ht, by rwa [Option.mem_toList] at hb⟩
  · rintro ⟨t, v, ht, hb⟩
    exact ⟨v, List.mem_of_getElem? ht, by rw [Option.mem_toList]; exact hb⟩
/-- An array of slices of packets. -/
structure Exps (H : Heap) (base : Nat) (vs : List Value) (es : List (List (List UInt8))) : Prop where
  n1 : vs.length = 400
  n2 : es.length = 400
  row : ∀ (t : Nat) (v : Value), vs[t]? = some v → ∃ bs : List BH, Own eBH 22 H base v bs ∧ bs.map BH.data = es.getD t [] ∧ ∀ y ∈ bs, RdM eByte (rowsB vs) H y.A y.data ∧ ∀ p, y.A = some p → base ≤ p.block
  apart : ∀ (t u : Nat) (v w : Value), t ≠ u → vs[t]? = some v → vs[u]? = some w → Apart v w
set_option maxRecDepth 100000 in
theorem Exps.ext {H H' : Heap} {base : Nat} {vs : List Value} {es : List (List (List UInt8))} (h : Exps H base vs es) (hx : Ext H H') : Exps H' base vs es :=
  ⟨h.n1, h.n2, fun t v hv => by
    obtain ⟨bs, h1, h2, h3⟩ := h.row t v hv
    exact ⟨bs, h1.ext hx, h2, fun y hy => ⟨(h3 y hy).1.tr (Tr.of_ext hx _), (h3 y hy).2⟩⟩, h.apart⟩
set_option maxRecDepth 100000 in
theorem Exps.keep {M : List Nat} {H H' : Heap} {base : Nat} {vs : List Value} {es : List (List (List UInt8))} (h : Exps H base vs es) (hK : Keep M H H') (hM : ∀ b ∈ M, b < base) : Exps H' base vs es :=
  ⟨h.n1, h.n2, fun t v hv => by
    obtain ⟨bs, h1, h2, h3⟩ := h.row t v hv
    refine ⟨bs, h1.keep hK (fun g e hm => by have := (h1.lt g e).1; have := hM _ hm; omega), h2, fun y hy => ⟨fun hn => ?_, (h3 y hy).2⟩⟩
    obtain ⟨p, e, hm, hc⟩ := (h3 y hy).1 hn
    exact ⟨p, e, hm, fun j u hu => hK.cell (hc j u hu) (by rw [block_of_add]; intro hb; have := (h3 y hy).2 p e; have := hM _ hb; omega)⟩, h.apart⟩
set_option maxRecDepth 100000 in
theorem Exps.lt {H : Heap} {base : Nat} {vs : List Value} {es : List (List (List UInt8))} (h : Exps H base vs es) : ∀ b ∈ rowsB vs, base ≤ b ∧ b < H.size := fun b hb => by
  obtain ⟨t, v, ht, e⟩ := mem_rowsB.1 hb
  obtain ⟨bs, h1, -⟩ := h.row t v ht
  exact h1.lt b e
set_option maxRecDepth 100000 in
/-- A row has grown. -/
theorem Exps.app {H H' : Heap} {base : Nat} {vs : List Value} {es : List (List (List UInt8))} (h : Exps H base vs es) {t : Nat} {v v' : Value} (ht : vs[t]? = some v) {bs : List BH} (hb : bs.map BH.data = es.getD t []) (hdat : ∀ y ∈ bs, RdM eByte (rowsB vs) H y.A y.data ∧ ∀ p, y.A = some p → base ≤ p.block) (y : BH)
    (hy : RdM eByte (rowsB vs) H y.A y.data) (hyl : ∀ p, y.A = some p → base ≤ p.block) (gr : Grew H v H' v') (ho : Own eBH 22 H' base v' (bs ++ [y])) : Exps H' base (vs.set t v') (es.set t (es.getD t [] ++ [y.data])) := by
  have htl : t < vs.length := (List.getElem?_eq_some_iff.1 ht).1
  have hte : t < es.length := by rw [h.n2]; rw [h.n1] at htl; exact htl
  have sub : ∀ b ∈ v.ownBlock.toList, b ∈ rowsB vs := fun b hb => mem_rowsB.2 ⟨t, v, ht, by rwa [Option.mem_toList] at hb⟩
  have tr : Tr (rowsB vs) H (rowsB (vs.set t v')) H' := ⟨gr.1.mono sub, fun b hb => by
    obtain ⟨u, w, hu, e⟩ := mem_rowsB.1 hb
    rw [List.getElem?_set] at hu
    split at hu
    · obtain rfl := Option.some.inj hu
      rcases gr.2 b e with h1 | h1
      · exact .inl (mem_rowsB.2 ⟨t, v, ht, h1⟩)
      · exact .inr h1
    · exact .inl (mem_rowsB.2 ⟨u, w, hu, e⟩)⟩
  refine ⟨by rw [List.length_set]; exact h.n1, by rw [List.length_set]; exact h.n2, fun u w hu => ?_, fun u1 u2 w1 w2 hne hu1 hu2 => ?_⟩
  · rw [getD_set hte]
    rw [List.getElem?_set] at hu
    by_cases e : t = u
    · rw [if_pos e] at hu ⊢
      rw [if_pos htl] at hu
      obtain rfl := Option.some.inj hu
      refine ⟨bs ++ [y], ho, by rw [List.map_append, hb]; rfl, fun z hz => ?_⟩
      rcases List.mem_append.1 hz with hz | hz
      · exact ⟨(hdat z hz).1.tr tr, (hdat z hz).2⟩
      · obtain rfl := List.mem_singleton.1 hz
        exact ⟨hy.tr tr, hyl⟩
    · rw [if_neg e] at hu ⊢
      obtain ⟨bs', h1, h2, h3⟩ := h.row u w hu
      exact ⟨bs', h1.grew gr (h.apart t u v w e ht hu), h2, fun z hz => ⟨(h3 z hz).1.tr tr, (h3 z hz).2⟩⟩
  · rw [List.getElem?_set] at hu1 hu2
    by_cases e1 : t = u1
    · rw [if_pos e1, if_pos htl] at hu1
      obtain rfl := Option.some.inj hu1
      by_cases e2 : t = u2
      · exact absurd (e1.symm.trans e2) hne
      · rw [if_neg e2] at hu2
        obtain ⟨bs', h1, -⟩ := h.row u2 w2 hu2
        exact (h.apart t u2 v w2 e2 ht hu2).grew h1 gr
    · rw [if_neg e1] at hu1
      by_cases e2 : t = u2
      · rw [if_pos e2, if_pos htl] at hu2
        obtain rfl := Option.some.inj hu2
        obtain ⟨bs', h1, -⟩ := h.row u1 w1 hu1
        exact ((h.apart t u1 v w1 e1 ht hu1).grew h1 gr).symm
      · rw [if_neg e2] at hu2
        exact h.apart u1 u2 w1 w2 hne hu1 hu2
set_option maxRecDepth 100000 in
theorem rows_tr {H H' : Heap} {vs : List Value} {t : Nat} {v v' : Value} (X : List Nat) (ht : vs[t]? = some v) (gr : Grew H v H' v') : Tr (X ++ rowsB vs) H (X ++ rowsB (vs.set t v')) H' := by
  have htl : t < vs.length := (List.getElem?_eq_some_iff.1 ht).1
  refine ⟨gr.1.mono fun b hb => List.mem_append.2 (.inr (mem_rowsB.2 ⟨t, v, ht, by rwa [Option.mem_toList] at hb⟩)), fun b hb => ?_⟩
  rcases List.mem_append.1 hb with hb | hb
  · exact .inl (List.mem_append.2 (.inl hb))
  · obtain ⟨u, w, hu, e⟩ := mem_rowsB.1 hb
    rw [List.getElem?_set] at hu
    split at hu
    · obtain rfl := Option.some.inj hu
      rcases gr.2 b e with h1 | h1
      · exact .inl (List.mem_append.2 (.inr (mem_rowsB.2 ⟨t, v, ht, h1⟩)))
      · exact .inr h1
    · exact .inl (List.mem_append.2 (.inr (mem_rowsB.2 ⟨u, w, hu, e⟩)))
set_option maxRecDepth 100000 in
theorem LkN.m {base : Nat} {H : Heap} {l : LH} {M : List Nat} (h : LkN base H l) (hM : ∀ b ∈ M, b < base) : LkM M H l :=
  ⟨RdM.of h.rd.pat fun p e hm => (by have := h.lP p e; have := hM _ hm; omega), RdM.of h.rd.fly fun p e hm => (by have := h.lF p e; have := hM _ hm; omega), fun x hx => RdM.of (h.rd.data x hx) fun p e hm => (by have := h.lD x hx p e; have := hM _ hm; omega), h.rd.fcap⟩
set_option maxRecDepth 100000 in
theorem exps_nil (H : Heap) (base : Nat) : Exps H base (List.replicate 400 (.slice none 0 0)) (List.replicate 400 []) := by
  have hg : ∀ (t : Nat) (v : Value), (List.replicate 400 (Value.slice none 0 0))[t]? = some v → v = .slice none 0 0 := fun t v hv => by
    rw [List.getElem?_replicate] at hv
    split at hv
    · exact (Option.some.inj hv).symm
    · cases hv
  refine ⟨List.length_replicate, List.length_replicate, fun t v hv => ?_, fun t u v w _ hv _ => ?_⟩
  · obtain rfl := hg t v hv
    refine ⟨[], Own.nil _ _, ?_, fun y hy => (by cases hy)⟩
    rw [List.getD_eq_getElem?_getD, List.getElem?_replicate]
    split <;> rfl
  · obtain rfl := hg t v hv
    exact fun g e => (by cases e)
end Go.Proofs.Ytckbcfldjniafaa
