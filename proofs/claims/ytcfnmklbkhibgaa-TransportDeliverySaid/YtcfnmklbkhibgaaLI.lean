/- The walker, part 9: what may turn and what stands; slices of slices; ways that meet again. Nothing of the program. -/
import Derived.Test.YtcfnmklbkhibgaaLG
namespace Go.Proofs.Ytcfnmklbkhibgaa
open Go.RowKit

/-- From H, where the blocks of M may turn, to H', where those of M' may. -/
structure Tr (M : List Nat) (H : Heap) (M' : List Nat) (H' : Heap) : Prop where
  keep : Keep M H H'
  new : ∀ b ∈ M', b ∈ M ∨ H.size ≤ b
section
variable {M M' M'' : List Nat} {H H' H'' : Heap} {g : Nat} {v v' : Value}
theorem Tr.refl (M : List Nat) (H : Heap) : Tr M H M H := ⟨Keep.refl _ _, fun _ h => .inl h⟩
theorem Tr.trans (h : Tr M H M' H') (k : Tr M' H' M'' H'') : Tr M H M'' H'' := by
  refine ⟨⟨Nat.le_trans h.keep.size k.keep.size, fun b hb hm => ?_⟩, fun b hb => ?_⟩
  · refine (k.keep.at_ b (Nat.lt_of_lt_of_le hb h.keep.size) fun hm' => ?_).trans (h.keep.at_ b hb hm)
    rcases h.new b hm' with h1 | h1
    · exact hm h1
    · omega
  · rcases k.new b hb with h1 | h1
    · exact h.new b h1
    · exact .inr (Nat.le_trans h.keep.size h1)
theorem Tr.of_ext (h : Ext H H') (M : List Nat) : Tr M H M H' := ⟨h.keep _, fun _ h => .inl h⟩
theorem Tr.of_keep (h : Keep M H H') : Tr M H M H' := ⟨h, fun _ h => .inl h⟩
theorem Tr.store (h : Keep [g] H H') (hg : g ∈ M) : Tr M H M H' := ⟨h.mono (by simpa using hg), fun _ h => .inl h⟩
theorem Tr.grew (h : Grew H v H' v') (M : List Nat) : Tr (v.ownBlock.toList ++ M) H (v'.ownBlock.toList ++ M) H' := by
  refine ⟨h.1.mono (fun b hb => List.mem_append.2 (.inl hb)), fun b hb => ?_⟩
  rcases List.mem_append.1 hb with hb | hb
  · rw [Option.mem_toList] at hb
    rcases h.2 b hb with h1 | h1
    · exact .inl (by simp [h1])
    · exact .inr h1
  · exact .inl (by simp [hb])
theorem Tr.sub (H : Heap) (h : ∀ b ∈ M', b ∈ M) : Tr M H M' H := ⟨Keep.refl _ _, fun b hb => .inl (h b hb)⟩
theorem Tr.add (h : Ext H H') (hn : ∀ b ∈ M', b ∈ M ∨ H.size ≤ b) : Tr M H M' H' := ⟨h.keep _, hn⟩
end

/-- The slice at A reads as the list l, and its block stands. -/
def RdM {α : Type} (c : El α) (M : List Nat) (H : Heap) (A : Option Addr) (l : List α) : Prop := l ≠ [] → ∃ p, A = some p ∧ p.block ∉ M ∧ ∀ j u, (l.flatMap c.F)[j]? = some u → cellH H (p.add j) = some u
section
variable {α : Type} {c : El α} {M M' : List Nat} {H H' : Heap} {A : Option Addr} {l : List α}
theorem RdM.rd (h : RdM c M H A l) : Rd c H A l := fun hn => by obtain ⟨p, e, _, hc⟩ := h hn; exact ⟨p, e, hc⟩
theorem RdM.of (h : Rd c H A l) (hm : ∀ p, A = some p → p.block ∉ M) : RdM c M H A l := fun hn => by obtain ⟨p, e, hc⟩ := h hn; exact ⟨p, e, hm p e, hc⟩
theorem RdM.tr (h : RdM c M H A l) (t : Tr M H M' H') : RdM c M' H' A l := fun hn => by
  obtain ⟨p, e, hm, hc⟩ := h hn
  have hlt : p.block < H.size := by
    obtain ⟨q, e', hq⟩ := h.rd.lt (List.length_pos_iff.2 hn)
    rw [e] at e'
    obtain rfl := Option.some.inj e'
    exact hq
  refine ⟨p, e, fun hb => ?_, fun j u hu => t.keep.cell (hc j u hu) (by rw [block_of_add]; exact hm)⟩
  rcases t.new _ hb with h1 | h1
  · exact hm h1
  · omega
theorem RdM.old {H0 : Heap} (h : Rd c H0 A l) (hx : Ext H0 H) (hM : ∀ b ∈ M, H0.size ≤ b) : RdM c M H A l := fun hn => by
  obtain ⟨p, e, hc⟩ := (h.ext hx) hn
  obtain ⟨q, e', hq⟩ := h.lt (List.length_pos_iff.2 hn)
  rw [e] at e'
  obtain rfl := Option.some.inj e'
  exact ⟨p, e, fun hm => by have := hM _ hm; omega, hc⟩
end
/-- Block g stands and holds these cells. -/
def BlkM (M : List Nat) (H : Heap) (g : Nat) (cs : List Value) (T : TypeId) : Prop := g ∉ M ∧ Blk H g cs T
theorem BlkM.tr {M M' : List Nat} {H H' : Heap} {g : Nat} {cs : List Value} {T : TypeId} (h : BlkM M H g cs T) (t : Tr M H M' H') : BlkM M' H' g cs T := by
  refine ⟨fun hb => ?_, h.2.keep t.keep h.1⟩
  have := h.2.lt
  rcases t.new _ hb with h1 | h1
  · exact h.1 h1
  · omega

/-- A slice, as an element: where it lies, its length, its room. -/
abbrev Hdr := Option Addr × Nat × Nat
def eHdr : El Hdr := El.of (fun x => .slice x.1 x.2.1 x.2.2) fun _ => rfl

section
variable {α : Type} {c : El α} {e : TypeId} {H H' : Heap} {base : Nat} {v : Value} {l : List α} {M : List Nat}
/-- What a call has made stands where the blocks that turn are older. -/
theorem Own.rdM {A : Option Addr} {n cap : Nat} (h : Own c e H base (.slice A n cap) l) (hM : ∀ b ∈ M, b < base) : RdM c M H A l := by
  obtain ⟨A', c', hv, _, hr, hb⟩ := h.form
  injection hv with h1 h2 _
  subst h1
  exact RdM.of hr fun p e hm => by have := (hb p e).1; have := hM _ hm; omega
/-- A slice of the call's own without room is its block. -/
theorem Own.blk {g n : Nat} (h : Own c e H base (.slice (some ⟨g, 0, none⟩) n n) l) : Blk H g (l.flatMap c.F) e := by
  rcases h.2 with ⟨h', _⟩ | ⟨g', cap', cur, h', hb, hg, hnc, hcm, hcs, htake⟩
  · cases h'
  · injection h' with h1 h2 h3
    injection h1 with h1
    injection h1 with h1
    subst h1; subst h3
    unfold Blk
    have : cur.toList = l.flatMap c.F := by
      rw [← htake, List.take_of_length_le]
      rw [Array.length_toList, hcs]
      subst h2
      exact Nat.le_refl _
    rw [← this]
    exact hg
end

/-- Two lists, element by element. -/
def All2 {β α : Type} (R : β → α → Prop) (hs : List β) (l : List α) : Prop := hs.length = l.length ∧ ∀ (i : Nat) (b : β) (a : α), hs[i]? = some b → l[i]? = some a → R b a
section
variable {α β : Type} {R R' : β → α → Prop} {hs : List β} {l : List α} {b : β} {a : α}
theorem All2.nil : All2 R [] [] := ⟨rfl, fun i _ _ h => by simp at h⟩
theorem All2.mono (h : All2 R hs l) (hr : ∀ b a, R b a → R' b a) : All2 R' hs l := ⟨h.1, fun i b a hb ha => hr b a (h.2 i b a hb ha)⟩
theorem All2.snoc (h : All2 R hs l) (hr : R b a) : All2 R (hs ++ [b]) (l ++ [a]) := by
  refine ⟨by simp [h.1], fun i b' a' hb ha => ?_⟩
  have hl := h.1
  rcases Nat.lt_trichotomy i hs.length with hi | hi | hi
  · rw [List.getElem?_append_left hi] at hb
    rw [List.getElem?_append_left (by omega)] at ha
    exact h.2 i b' a' hb ha
  · subst hi
    rw [List.getElem?_append_right (Nat.le_refl _)] at hb
    rw [List.getElem?_append_right (by omega)] at ha
    simp at hb
    simp [hl] at ha
    subst hb; subst ha
    exact hr
  · rw [List.getElem?_eq_none (by simp; omega)] at hb
    cases hb
theorem All2.set (h : All2 R hs l) (hr : R b a) (k : Nat) : All2 R (hs.set k b) (l.set k a) := by
  refine ⟨by simp [h.1], fun i b' a' hb ha => ?_⟩
  rw [List.getElem?_set] at hb ha
  split at hb
  · rename_i e
    subst e
    rw [if_pos rfl] at ha
    split at hb
    · split at ha
      · simp at hb ha; subst hb; subst ha; exact hr
      · cases ha
    · cases hb
  · rename_i e
    rw [if_neg e] at ha
    exact h.2 i b' a' hb ha
end

section
variable {P : Program} {n : Nat} {N R : Env → Heap → Prop} {X : Nat → Env → Heap → Prop} {E : Env} {H : Heap} {y a : Code}
/-- Two ways that meet again: what is behind, once. -/
theorem cutF {F : Env → Heap → Prop} {α : Type} (W : List Nat) (S : α → List (Nat × Value)) (I : α → Heap → Prop) (hF : ∀ E H, WP P n y N R X E H → F E H)
    (hy : ∀ (z : α) (J : Env) (H' : Heap), I z H' → WP P n y N R X (updL (over W J E) (S z)) H') (hx : (∀ (z : α) E' H', Agree W E E' → SatL E' (S z) → I z H' → F E' H') → WP P n a F R X E H) : WP P n a F R X E H :=
  hx fun z E' H' ha hs hi => hF _ _ <| by
    have h := hy z E' H' hi
    rwa [ha.eta.symm, ← hs.eta] at h
end

section
variable {P : Program} {n : Nat} {o : Oper} {E : Env} {H : Heap} {K : Value → Heap → Prop} {x y : Operand} {e : TypeId}
/-- A store of what is there. -/
theorem stepStoreSame {T T' : TypeId} {cs : List Value} {g j : Nat} {v : Value} (ho : o.op = .store T x y) (hs1 : ∀ w, (sizeOf T).run P w = .ok 1 w) (hx : ev n E x = .pointer (some ((⟨g, 0, none⟩ : Addr).add j))) (hy : ev n E y = v) (hv : v.cells = #[v]) (hv1 : v.oneCell' = true)
    (hB : Blk H g cs T') (hj : cs[j]? = some v) (hk : K undef H) : Step P n o E H K := by
  have hlt := (List.getElem?_eq_some_iff.1 hj).1
  rw [add_head] at hx
  refine step_store ho hs1 hx hy hv hv1 (u := v) (by rw [hB.at0]; exact hj) (frozen_of_row (wd H) g j cs.toArray T' hB) ?_
  have h1 := heap_setCell_same (wd H) g j cs.toArray T' v hB
  have h2 := set_keep H ⟨g, j, none⟩ v
  have : ((wd H).setCell ⟨g, j, none⟩ v).heap = H := by
    apply Array.ext
    · simp [World.setCell, wd]
    · intro b hb1 hb2
      by_cases hbg : b = g
      · subst hbg
        rw [Array.getElem?_eq_getElem hb1] at h1
        have h3 := hB
        unfold Blk at h3
        rw [Array.getElem?_eq_getElem hb2] at h3
        have e1 := Option.some.inj h1
        have e2 := Option.some.inj h3
        rw [e1, e2]
        congr 1
        apply Array.ext'
        rw [Array.toList_setIfInBounds, List.toList_toArray]
        apply List.ext_getElem?
        intro i
        rw [List.getElem?_set]
        split
        · rename_i e; subst e; exact hj.symm
        · rfl
      · have := h2.at_ b hb2 (by simpa using hbg)
        rw [Array.getElem?_eq_getElem hb1, Array.getElem?_eq_getElem hb2] at this
        exact Option.some.inj this
  rw [this]
  exact hk
end
end Go.Proofs.Ytcfnmklbkhibgaa
