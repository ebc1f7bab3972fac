/- The walk over VclockCausal. -/
import Derived.Test.YtomejdempmbbmaaV8
import Derived.Test.YtomejdempmbbmaaV3
import Derived.Test.YtomejdempmbbmaaLI
namespace Go.Proofs.Ytomejdempmbbmaa
open Go.RowKit

def eAct : El (UInt8 × UInt8) := ⟨fun x => [.int .u8 (x.1.toNat : Int), .int .u8 (x.2.toNat : Int)], 2, by omega, fun _ => rfl, fun x u hu => by simp at hu; rcases hu with rfl | rfl <;> rfl⟩
def rl (l : List (UInt8 × UInt8)) (j : Nat) : Nat := (l.getD j (0, 0)).1.toNat % 3
def fl (l : List (UInt8 × UInt8)) (j : Nat) : Nat := (l.getD j (0, 0)).2.toNat
theorem rl_lt (l : List (UInt8 × UInt8)) (j : Nat) : rl l j < 3 := Nat.mod_lt _ (by omega)
theorem rl_at {l : List (UInt8 × UInt8)} {j : Nat} (h : j < l.length) : IntKind.i64.wrap ((l[j].1.toNat : Int) % 3) = (rl l j : Int) := by
  have : ((l[j].1.toNat : Int) % 3) = (rl l j : Int) := by unfold rl; rw [List.getD_eq_getElem?_getD, List.getElem?_eq_getElem h]; simp
  rw [this]
  have := rl_lt l j
  exact IntWalk.i64_in _ (by omega)
theorem fl_at {l : List (UInt8 × UInt8)} {j : Nat} (h : j < l.length) : IntKind.i64.wrap (l[j].2.toNat : Int) = (fl l j : Int) := by
  have : (l[j].2.toNat : Int) = (fl l j : Int) := by unfold fl; rw [List.getD_eq_getElem?_getD, List.getElem?_eq_getElem h]; simp
  rw [this]
  have : fl l j < 256 := by unfold fl; exact UInt8.toNat_lt _
  exact IntWalk.i64_in _ (by omega)
theorem fl_lt (l : List (UInt8 × UInt8)) (j : Nat) : fl l j < 256 := by unfold fl; exact UInt8.toNat_lt _
theorem elem_hdr26 : Elem Try.prog 26 (.slice none 0 0) 1 24 := by unfold Elem; kernel_rfl
theorem elem_hdr31 : Elem Try.prog 31 (.slice none 0 0) 1 24 := by unfold Elem; kernel_rfl

theorem Own.hdr {e : TypeId} {H : Heap} {base : Nat} {A a : Option Addr} {n c m c' : Nat} {hs : List Hdr} (h : Own eHdr e H base (.slice A n c) hs) {k : Nat} (hx : hs[k]? = some (a, m, c')) : ∃ p, A = some p ∧ cellH H (p.add k) = some (.slice a m c') := by
  obtain ⟨hk, hx⟩ := List.getElem?_eq_some_iff.1 hx
  obtain ⟨p, e, h⟩ := (Own.rd h).2.at1 hk
  rw [hx] at h
  exact ⟨p, e, h⟩
abbrev outM (gn gb : Nat) (vc : Value) : List Nat := vc.ownBlock.toList ++ [gn, gb]
/-- What stands ahead of event i. -/
structure CSt (l : List (UInt8 × UInt8)) (H : Heap) (b0 gn gb i : Nat) (vc : Value) (bs hs ns : List Hdr) (H' : Heap) : Prop where
  i_le : i ≤ l.length
  ext : Ext H H'
  b0_le : b0 ≤ H'.size
  own_n : Own eHdr 26 H' H.size (.slice (some ⟨gn, 0, none⟩) 3 3) ns
  own_b : Own eHdr 31 H' H.size (.slice (some ⟨gb, 0, none⟩) l.length l.length) bs
  own_c : Own eHdr 26 H' b0 vc hs
  nl : ns.length = 3
  bl : bs.length = l.length
  cl : hs.length = i
  rows : ∀ k, k < i → ∃ g, bs[k]? = some (some ⟨g, 0, none⟩, l.length, l.length) ∧ BlkM (outM gn gb vc) H' g ((rowOf (rl l) (fl l) l.length k).map Value.bool) 4
  clk : ∀ k, k < i → ∃ A c v, hs[k]? = some (A, v.length, c) ∧ RdM eInt (outM gn gb vc) H' A v ∧ Thr (rl l) v (fun j => j = k ∨ HB (rl l) (fl l) j k) (k + 1)
  now : ∀ p, p < 3 → ∃ A c v, ns[p]? = some (A, v.length, c) ∧ RdM eInt (outM gn gb vc) H' A v ∧ Thr (rl l) v (Past (rl l) (fl l) p i) i
/-- Event i's row and clock are in work: g is the row's block. -/
structure CIn (l : List (UInt8 × UInt8)) (H : Heap) (b0 gn gb g i : Nat) (vc : Value) (bs hs ns : List Hdr) (H' : Heap) : Prop where
  i_lt : i < l.length
  ext : Ext H H'
  b0_le : b0 ≤ g
  g_lt : g < H'.size
  own_n : Own eHdr 26 H' H.size (.slice (some ⟨gn, 0, none⟩) 3 3) ns
  own_b : Own eHdr 31 H' H.size (.slice (some ⟨gb, 0, none⟩) l.length l.length) bs
  own_c : Own eHdr 26 H' b0 vc hs
  g_c : ∀ b, vc.ownBlock = some b → b < g
  nl : ns.length = 3
  bl : bs.length = l.length
  cl : hs.length = i
  row : bs[i]? = some (some ⟨g, 0, none⟩, l.length, l.length)
  rows : ∀ k, k < i → ∃ g', bs[k]? = some (some ⟨g', 0, none⟩, l.length, l.length) ∧ BlkM (vc.ownBlock.toList ++ [g, gn, gb]) H' g' ((rowOf (rl l) (fl l) l.length k).map Value.bool) 4
  clk : ∀ k, k < i → ∃ A c v, hs[k]? = some (A, v.length, c) ∧ RdM eInt (vc.ownBlock.toList ++ [g, gn, gb]) H' A v ∧ Thr (rl l) v (fun j => j = k ∨ HB (rl l) (fl l) j k) (k + 1)
  now : ∀ p, p < 3 → ∃ A c v, ns[p]? = some (A, v.length, c) ∧ RdM eInt (vc.ownBlock.toList ++ [g, gn, gb]) H' A v ∧ Thr (rl l) v (Past (rl l) (fl l) p i) i
section
variable {l : List (UInt8 × UInt8)} {H : Heap} {b0 gn gb g i : Nat} {vc : Value} {bs hs ns : List Hdr} {H' H'' : Heap}
/-- The row's block alone turns, or blocks are added. -/
theorem CIn.keep (h : CIn l H b0 gn gb g i vc bs hs ns H') (k : Keep [g] H' H'') (h0 : H.size ≤ b0) (hn : gn < b0) (hb : gb < b0) : CIn l H b0 gn gb g i vc bs hs ns H'' := by
  have hg := h.b0_le
  have t : Tr (vc.ownBlock.toList ++ [g, gn, gb]) H' (vc.ownBlock.toList ++ [g, gn, gb]) H'' := Tr.store k (by simp)
  refine ⟨h.i_lt, h.ext.mine k (by simp; omega), h.b0_le, Nat.lt_of_lt_of_le h.g_lt k.size, h.own_n.keep k ?_, h.own_b.keep k ?_, h.own_c.keep k ?_, h.g_c, h.nl, h.bl, h.cl, h.row, ?_, ?_, ?_⟩
  · intro b e; obtain rfl := Option.some.inj e; simp; show gn ≠ g; omega
  · intro b e; obtain rfl := Option.some.inj e; simp; show gb ≠ g; omega
  · intro b e hm; have := h.g_c b e; simp at hm; omega
  · intro k' hk'; obtain ⟨g', h1, h2⟩ := h.rows k' hk'; exact ⟨g', h1, h2.tr t⟩
  · intro k' hk'; obtain ⟨A, c, v, h1, h2, h3⟩ := h.clk k' hk'; exact ⟨A, c, v, h1, h2.tr t, h3⟩
  · intro k' hk'; obtain ⟨A, c, v, h1, h2, h3⟩ := h.now k' hk'; exact ⟨A, c, v, h1, h2.tr t, h3⟩
theorem CIn.ltM (h : CIn l H b0 gn gb g i vc bs hs ns H') (hn : gn < b0) (hb : gb < b0) : ∀ b ∈ vc.ownBlock.toList ++ [g, gn, gb], b < H'.size := by
  intro b hm
  simp only [List.mem_append, List.mem_cons, Option.mem_toList, List.not_mem_nil, or_false] at hm
  have := h.g_lt
  have := h.b0_le
  rcases hm with h1 | h1 | h1 | h1
  · exact (h.own_c.lt b h1).2
  · omega
  · omega
  · omega
/-- The row has been made and hung in. -/
theorem CSt.begin (h : CSt l H b0 gn gb i vc bs hs ns H') (hi : i < l.length) (hx : Ext H' H'') (hg : H'.size ≤ g) (hg' : g < H''.size) {H3 : Heap}
    (hB : Own eHdr 31 H3 H.size (.slice (some ⟨gb, 0, none⟩) l.length l.length) (bs.set i (some ⟨g, 0, none⟩, l.length, l.length))) (k : Keep [gb] H'' H3) (h0 : H.size ≤ gb) (hne : gn ≠ gb) (hn : gn < b0) (hb : gb < b0) :
    CIn l H b0 gn gb g i vc (bs.set i (some ⟨g, 0, none⟩, l.length, l.length)) hs ns H3 := by
  have h1 := h.b0_le
  have t : Tr (outM gn gb vc) H' (vc.ownBlock.toList ++ [g, gn, gb]) H3 := (Tr.add hx (M' := vc.ownBlock.toList ++ [g, gn, gb]) (by simp only [List.mem_append, List.mem_cons, Option.mem_toList]; rintro b (h | rfl | rfl | rfl | h) <;> first | (exact .inl (.inl h)) | (exact .inr hg) | (exact .inl (.inr (.inl rfl))) | (exact .inl (.inr (.inr (.inl rfl)))) | (cases h))).trans (Tr.store k (by simp))
  refine ⟨hi, (h.ext.trans hx).mine k (by simp; omega), by omega, Nat.lt_of_lt_of_le hg' k.size, (h.own_n.ext hx).keep k ?_, hB, (h.own_c.ext hx).keep k ?_, ?_, h.nl, by simp [h.bl], h.cl, ?_, ?_, ?_, ?_⟩
  · intro b e; obtain rfl := Option.some.inj e; simpa using hne
  · intro b e hm; have := (h.own_c.lt b e).1; simp at hm; omega
  · intro b e; have := (h.own_c.lt b e).2; omega
  · rw [List.getElem?_set_self (by rw [h.bl]; exact hi)]
  · intro k' hk'
    obtain ⟨g', h1, h2⟩ := h.rows k' hk'
    exact ⟨g', by rw [List.getElem?_set_ne (by omega)]; exact h1, h2.tr t⟩
  · intro k' hk'; obtain ⟨A, c, v, h1, h2, h3⟩ := h.clk k' hk'; exact ⟨A, c, v, h1, h2.tr t, h3⟩
  · intro k' hk'; obtain ⟨A, c, v, h1, h2, h3⟩ := h.now k' hk'; exact ⟨A, c, v, h1, h2.tr t, h3⟩
/-- Event i is done. -/
theorem CIn.done {vc' : Value} {A : Option Addr} {c : Nat} {v : List Int} {w : List Bool} {H3 H4 : Heap} (h : CIn l H b0 gn gb g i vc bs hs ns H') (h0 : H.size ≤ gn) (hne : gn ≠ gb) (hn : gn < b0) (hb : gb < b0)
    (hrow : Own eBool 4 H' b0 (.slice (some ⟨g, 0, none⟩) l.length l.length) w) (hw : w = rowOf (rl l) (fl l) l.length i)
    (hv : RdM eInt (vc.ownBlock.toList ++ [g, gn, gb]) H' A v) (ht : Thr (rl l) v (fun j => j = i ∨ HB (rl l) (fl l) j i) (i + 1))
    (hN : Own eHdr 26 H'' H.size (.slice (some ⟨gn, 0, none⟩) 3 3) (ns.set (rl l i) (A, v.length, c))) (k : Keep [gn] H' H'') (hx : Ext H'' H3)
    (hC : Own eHdr 26 H4 b0 vc' (hs ++ [(A, v.length, c)])) (hg : Grew H3 vc H4 vc') :
    CSt l H b0 gn gb (i + 1) vc' bs (hs ++ [(A, v.length, c)]) (ns.set (rl l i) (A, v.length, c)) H4 := by
  have hi := h.i_lt
  have hgb := h.b0_le
  have hglt := h.g_lt
  have s1 := k.size
  have s2 := hx.size
  have t3 : Tr (vc.ownBlock.toList ++ [g, gn, gb]) H' (vc.ownBlock.toList ++ [g, gn, gb]) H3 := (Tr.store k (by simp)).trans (Tr.of_ext hx _)
  have t4 : Tr (vc.ownBlock.toList ++ [g, gn, gb]) H' (vc'.ownBlock.toList ++ [g, gn, gb]) H4 := t3.trans (Tr.grew hg _)
  have t5 : Tr (vc.ownBlock.toList ++ [g, gn, gb]) H' (outM gn gb vc') H4 := t4.trans (Tr.sub _ (by simp only [List.mem_append, List.mem_cons]; rintro b (h | h | h | h) <;> simp_all))
  have vlt := fun b e => (h.own_c.lt b e).2
  have vge := fun b e => (h.own_c.lt b e).1
  have hgc := h.g_c
  have hr := rl_lt l i
  have gk : ∀ b, vc'.ownBlock = some b → b ≠ g := by
    intro b e hbg
    subst hbg
    rcases hg.2 b e with h1 | h1
    · have := hgc b h1; omega
    · omega
  have hgrow := hrow.keep k (by intro b e; obtain rfl := Option.some.inj e; simp; show g ≠ gn; omega)
  have hgrow := (hgrow.ext hx).keep hg.1 (by intro b e hm; obtain rfl := Option.some.inj e; rw [Option.mem_toList] at hm; have : g < g := hgc _ hm; omega)
  refine ⟨hi, ?_, ?_, (hN.ext hx).keep hg.1 ?_, ((h.own_b.keep k ?_).ext hx).keep hg.1 ?_, hC, by simp [h.nl], h.bl, by simp [h.cl], ?_, ?_, ?_⟩
  · exact hg.ext ((h.ext.mine k (by simp; omega)).trans hx) (fun b e => by have := vge b e; omega)
  · have := hg.1.size; omega
  · intro b e hm; obtain rfl := Option.some.inj e; rw [Option.mem_toList] at hm; have : b0 ≤ gn := vge _ hm; omega
  · intro b e; obtain rfl := Option.some.inj e; simp; exact fun h => hne h.symm
  · intro b e hm; obtain rfl := Option.some.inj e; rw [Option.mem_toList] at hm; have : b0 ≤ gb := vge _ hm; omega
  · intro k' hk'
    rcases Nat.lt_or_ge k' i with h1 | h1
    · obtain ⟨g', h1, h2⟩ := h.rows k' h1
      exact ⟨g', h1, h2.tr t5⟩
    · have : k' = i := by omega
      subst this
      refine ⟨g, h.row, ?_, ?_⟩
      · simp only [outM, List.mem_append, List.mem_cons, Option.mem_toList, List.not_mem_nil, or_false]
        rintro (h2 | h2 | h2)
        · exact gk g h2 rfl
        · omega
        · omega
      · have := hgrow.blk
        rw [hw] at this
        have e : (rowOf (rl l) (fl l) l.length k').flatMap eBool.F = (rowOf (rl l) (fl l) l.length k').map Value.bool := by
          show List.flatMap (fun x => [Value.bool x]) _ = _
          rw [← List.map_eq_flatMap]
        rwa [e] at this
  · intro k' hk'
    rcases Nat.lt_or_ge k' i with h1 | h1
    · obtain ⟨A', c', v', h1', h2, h3⟩ := h.clk k' h1
      exact ⟨A', c', v', by rw [List.getElem?_append_left (by rw [h.cl]; exact h1)]; exact h1', h2.tr t5, h3⟩
    · have : k' = i := by omega
      subst this
      exact ⟨A, c, v, by rw [List.getElem?_append_right (by rw [h.cl]; exact Nat.le_refl _), h.cl]; simp, hv.tr t5, ht⟩
  · intro p hp
    by_cases hpr : rl l i = p
    · subst hpr
      exact ⟨A, c, v, by rw [List.getElem?_set_self (by rw [h.nl]; exact hp)], hv.tr t5, thr_now ht⟩
    · obtain ⟨A', c', v', h1', h2, h3⟩ := h.now p hp
      exact ⟨A', c', v', by rw [List.getElem?_set_ne hpr]; exact h1', h2.tr t5, thr_past h3 hpr⟩
end
end Go.Proofs.Ytomejdempmbbmaa
