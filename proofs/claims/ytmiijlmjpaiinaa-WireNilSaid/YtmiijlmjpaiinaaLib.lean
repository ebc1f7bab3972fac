/- Words on memory for all walks of this seat: slices of one-cell elements that are read, slices of the call's own, append and make. Nothing of the program. -/
import Derived.WalkKit
import Derived.WalkSpells
import Derived.WalkLawsBesides
import Derived.Deep.QuietTactic
import Derived.BigQuiet
import Derived.Lib.Hide
import Derived.Deep.Draws
import Derived.Laws.OwnMore
import Derived.Deep.AppendLies
import Derived.Maps.AppendAt
import Derived.Laws.AppendOwnNone
import Derived.Deep.RegionLaw
namespace Go.Proofs.Ytmiijlmjpaiinaa
open Go.RowKit

theorem hide {p : Prop} (h : p) : Hid p := h

/-- What was there is as it was; there may be new blocks. -/
def Ext (w w' : World) : Prop := Below w.heap.size w w'
section
variable {w w1 w2 w3 : World}
theorem Ext.refl (w : World) : Ext w w := Below.refl _ _
theorem Ext.trans (h : Ext w w1) (k : Ext w1 w2) : Ext w w2 := Below.trans h (Below.mono k (Below.size h))
theorem Ext.drew (h : Ext w w1) : Ext w w1.drew := Below.drew h
theorem Ext.drewN (h : Ext w w1) (n : Nat) : Ext w (w1.drewN n) := ⟨h.os, h.tape, h.output, h.size, h.block⟩
theorem Ext.alloc (h : Ext w w1) (o : Obj) : Ext w (w1.alloc o) := Below.alloc h (Below.size h) o
theorem Ext.of_drewN (w : World) (n : Nat) : Ext w (w.drewN n) := (Ext.refl w).drewN n
theorem Ext.size (h : Ext w w1) : w.heap.size ≤ w1.heap.size := Below.size h
theorem Ext.cell (h : Ext w w1) {p : Addr} (hp : p.block < w.heap.size) : w1.cell? p = w.cell? p := Below.cell h hp
theorem Ext.frozen (h : Ext w w1) {p : Addr} (hp : p.block < w.heap.size) : w1.frozen? p = w.frozen? p := Below.frozen h hp
theorem Ext.heap (h : Ext w w1) {g : Nat} (hg : g < w.heap.size) : w1.heap[g]? = w.heap[g]? := h.block g hg
theorem Ext.grown (h : Ext w w1) {row : Option Nat} (hg : w1.grownBy w2 row) (hr : ∀ k, row = some k → w.heap.size ≤ k) : Ext w w2 := Below.grown h hg (Below.size h) hr
theorem Ext.setCell (h : Ext w w1) {p : Addr} (hp : w.heap.size ≤ p.block) (u : Value) : Ext w (w1.setCell p u) := Below.setCell h hp u
theorem Ext.grownBy (h : Ext w w1) (row : Option Nat) : w.grownBy w1 row := ⟨h.os, h.tape, h.output, h.size, fun k hk _ => h.block k hk⟩
theorem Ext.of_grownBy (h : w.grownBy w1 none) : Ext w w1 := ⟨h.os, h.tape, h.output, h.size, fun k hk => h.block k hk (by simp)⟩
end

/-- The world has only drawn. -/
def Quiet (w w' : World) : Prop := ∃ k, w.drewN k = w'
theorem Quiet.refl (w : World) : Quiet w w := ⟨0, rfl⟩
theorem Quiet.d1 (w : World) (a : Nat) : Quiet w (w.drewN a) := ⟨a, rfl⟩
theorem Quiet.d2 (w : World) (a b : Nat) : Quiet w ((w.drewN a).drewN b) := ⟨a + b, (World.drewN_drewN w a b).symm⟩
theorem Quiet.d3 (w : World) (a b c : Nat) : Quiet w (((w.drewN a).drewN b).drewN c) := ⟨a + b + c, by rw [World.drewN_drewN, World.drewN_drewN, Nat.add_assoc]⟩
theorem Quiet.d4 (w : World) (a b c d : Nat) : Quiet w ((((w.drewN a).drewN b).drewN c).drewN d) := ⟨a + b + c + d, by rw [World.drewN_drewN, World.drewN_drewN, World.drewN_drewN]; congr 1; omega⟩
theorem Quiet.trans {w w1 w2 : World} (h : Quiet w w1) (k : Quiet w1 w2) : Quiet w w2 := by
  obtain ⟨a, rfl⟩ := h; obtain ⟨b, rfl⟩ := k; exact Quiet.d2 w a b
theorem Quiet.ext {w w' : World} (h : Quiet w w') : Ext w w' := by obtain ⟨k, rfl⟩ := h; exact Ext.of_drewN w k

theorem block_of_add (a : Addr) (n : Nat) : (a.add n).block = a.block := by unfold Addr.add; split <;> rfl
theorem add_of_add (a : Addr) (i j : Nat) : (a.add i).add j = a.add (i + j) := by
  unfold Addr.add
  by_cases hi : i = 0 <;> by_cases hj : j = 0 <;> simp [hi, hj, Nat.add_assoc]
theorem cell_lt {w : World} {a : Addr} {v : Value} (h : w.cell? a = some v) : a.block < w.heap.size := by
  rcases Nat.lt_or_ge a.block w.heap.size with hlt | hge
  · exact hlt
  · have : w.heap[a.block]? = none := Array.getElem?_eq_none hge
    simp [World.cell?, this] at h

/-- The slice value with address A and length n (elements of sz cells) reads as the cells xs. -/
def Reads (w : World) (sz : Nat) (A : Option Addr) (n : Nat) (xs : List Value) : Prop :=
  xs.length = n * sz ∧ (0 < n → ∃ ad, A = some ad ∧ ad.block < w.heap.size ∧ ∀ j u, xs[j]? = some u → w.cell? (ad.add j) = some u)
section
variable {w w' : World} {sz n : Nat} {A : Option Addr} {xs : List Value}
theorem Reads.nil (w : World) (sz : Nat) (A : Option Addr) : Reads w sz A 0 [] := ⟨by simp, fun h => absurd h (by omega)⟩
theorem Reads.ext (h : Reads w sz A n xs) (hb : Ext w w') : Reads w' sz A n xs :=
  ⟨h.1, fun hn => by
    obtain ⟨ad, e, hl, hc⟩ := h.2 hn
    exact ⟨ad, e, Nat.lt_of_lt_of_le hl hb.size, fun j u hu => (hb.cell (by rw [block_of_add]; exact hl)).trans (hc j u hu)⟩⟩
theorem Reads.of_own {base : Nat} {e : TypeId} {c : Nat} (h : w.ownsRow base e sz (.slice A n c) n xs) : Reads w sz A n xs := by
  refine ⟨h.1, fun hn => ?_⟩
  obtain ⟨g, cap, hv, _, hlt⟩ := h.form hn
  have hA : A = some ⟨g, 0, none⟩ := by injection hv
  subst hA
  exact ⟨_, rfl, hlt, h.cells (g := g) rfl⟩
theorem Reads.cut (h : Reads w sz A n xs) {k cap : Nat} (hk : k ≤ n) (hc : n ≤ cap) :
    Reads w sz (if cap = k then A else A.map (·.add (k * sz))) (n - k) (xs.drop (k * sz)) := by
  refine ⟨by rw [List.length_drop, h.1, Nat.sub_mul], fun hn => ?_⟩
  obtain ⟨ad, rfl, hb, hcell⟩ := h.2 (by omega)
  rw [if_neg (by omega)]
  refine ⟨ad.add (k * sz), rfl, by rw [block_of_add]; exact hb, fun j u hu => ?_⟩
  rw [add_of_add]
  exact hcell _ u (by rw [← hu, List.getElem?_drop])
theorem Reads.first (h : Reads w sz A n xs) {k : Nat} (hk : k ≤ n) : Reads w sz A k (xs.take (k * sz)) := by
  refine ⟨by rw [List.length_take, h.1, Nat.min_eq_left (Nat.mul_le_mul_right _ hk)], fun hn => ?_⟩
  obtain ⟨ad, rfl, hb, hcell⟩ := h.2 (by omega)
  exact ⟨ad, rfl, hb, fun j u hu => hcell j u (by
    rw [List.getElem?_take] at hu
    split at hu
    · exact hu
    · cases hu)⟩
/-- A slice still reads the same where its block is the same. -/
theorem Reads.grown (h : Reads w sz A n xs) {row : Option Nat} (hg : w.grownBy w' row) (hr : ∀ ad, A = some ad → row ≠ some ad.block) : Reads w' sz A n xs :=
  ⟨h.1, fun hn => by
    obtain ⟨ad, e, hl, hc⟩ := h.2 hn
    refine ⟨ad, e, Nat.lt_of_lt_of_le hl hg.size, fun j u hu => ?_⟩
    rw [← hc j u hu]
    exact World.cell?_of_block (hg.block _ (by rw [block_of_add]; exact hl) (by rw [block_of_add]; exact fun e' => hr ad e e'.symm))⟩
end

/-- A slice that reads as the list l, one cell an element. -/
def Rd {α : Type} (f : α → Value) (w : World) (A : Option Addr) (l : List α) : Prop := Reads w 1 A l.length (l.map f)
section
variable {α : Type} {f : α → Value} {w w' : World} {A : Option Addr} {l : List α}
theorem Rd.at_ (h : Rd f w A l) {k : Nat} (hk : k < l.length) : ∃ ad x, A = some ad ∧ l.drop k = x :: l.drop (k + 1) ∧ l[k]? = some x ∧ w.cell? (ad.add k) = some (f x) ∧ ad.block < w.heap.size := by
  obtain ⟨ad, e, hb, hc⟩ := h.2 (by omega)
  exact ⟨ad, l[k], e, List.drop_eq_getElem_cons hk, List.getElem?_eq_getElem hk, hc k _ (by simp [hk]), hb⟩
theorem Rd.ext (h : Rd f w A l) (hb : Ext w w') : Rd f w' A l := Reads.ext h hb
theorem Rd.drewN (h : Rd f w A l) (k : Nat) : Rd f (w.drewN k) A l := h
theorem Rd.drew (h : Rd f w A l) : Rd f w.drew A l := h
theorem Rd.alloc (h : Rd f w A l) (o : Obj) : Rd f (w.alloc o) A l := h.ext ((Ext.refl _).alloc _)
theorem Rd.nil (w : World) (A : Option Addr) : Rd f w A [] := Reads.nil w 1 A
theorem Rd.grown (h : Rd f w A l) {row : Option Nat} (hg : w.grownBy w' row) (hr : ∀ ad, A = some ad → row ≠ some ad.block) : Rd f w' A l := Reads.grown h hg hr
theorem Rd.cut (h : Rd f w A l) {k cap : Nat} (hk : k ≤ l.length) (hc : l.length ≤ cap) : Rd f w (if cap = k then A else A.map (·.add k)) (l.drop k) := by
  have := Reads.cut h hk hc
  simp only [Nat.mul_one] at this
  unfold Rd
  rw [List.length_drop, List.map_drop]
  exact this
theorem Rd.first (h : Rd f w A l) {k : Nat} (hk : k ≤ l.length) : Rd f w A (l.take k) := by
  have := Reads.first h hk
  simp only [Nat.mul_one] at this
  unfold Rd
  rw [List.length_take, Nat.min_eq_left hk, List.map_take]
  exact this
end

/-- A slice of the call's own (blocks from base on), elements of type e, one cell each. -/
def Own {α : Type} (e : TypeId) (f : α → Value) (w : World) (base : Nat) (v : Value) (l : List α) : Prop := w.ownsRow base e 1 v l.length (l.map f)
section
variable {α : Type} {e : TypeId} {f : α → Value} {w w' : World} {base : Nat} {v u : Value} {l : List α}
theorem Own.nil (w : World) (base : Nat) : Own e f w base (.slice none 0 0) [] := World.ownsRow_nil w base e 1
theorem Own.lit (w : World) (base : Nat) (hb : base ≤ w.heap.size) (l : List α) (hl : l.length ≤ 1073741824) :
    Own e f (w.alloc (.cells (l.map f).toArray e)) base (.slice (some ⟨w.heap.size, 0, none⟩) l.length l.length) l :=
  World.ownsRow_lit (e := e) (size := 1) w (l.map f).toArray l.length hb (by unfold maxLen; omega) (by simp)
theorem Own.lit_at (w : World) (base N : Nat) (hN : N = w.heap.size) (hb : base ≤ w.heap.size) (l : List α) (hl : l.length ≤ 1073741824) :
    Own e f (w.alloc (.cells (l.map f).toArray e)) base (.slice (some ⟨N, 0, none⟩) l.length l.length) l := by subst hN; exact Own.lit w base hb l hl
theorem Own.alloc (h : Own e f w base v l) (o : Obj) : Own e f (w.alloc o) base v l := World.ownsRow.alloc h o
theorem Own.drewN (h : Own e f w base v l) (k : Nat) : Own e f (w.drewN k) base v l := h
theorem Own.drew (h : Own e f w base v l) : Own e f w.drew base v l := h
theorem Own.lt (h : Own e f w base v l) : ∀ g, v.ownBlock = some g → base ≤ g ∧ g < w.heap.size := World.ownsRow.lt h
theorem Own.mono {base' : Nat} (h : Own e f w base v l) (hb : base' ≤ base) : Own e f w base' v l := by
  refine ⟨h.1, ?_⟩
  rcases h.2 with h | ⟨g, cap, cur, h1, h2, r⟩
  · exact .inl h
  · exact .inr ⟨g, cap, cur, h1, Nat.le_trans hb h2, r⟩
theorem Own.reads (h : Own e f w base v l) : ∃ A c, v = .slice A l.length c ∧ Rd f w A l := by
  rcases h.2 with ⟨rfl, h0⟩ | ⟨g, cap, cur, rfl, _⟩
  · have : l = [] := List.eq_nil_of_length_eq_zero h0
    subst this
    exact ⟨none, 0, rfl, Rd.nil w none⟩
  · exact ⟨_, _, rfl, Reads.of_own h⟩
theorem Own.rd {n c : Nat} {A : Option Addr} (h : Own e f w base (.slice A n c) l) : n = l.length ∧ Rd f w A l := by
  obtain ⟨A', c', hv, hi⟩ := h.reads
  injection hv with h1 h2 h3
  subst h1
  exact ⟨h2, hi⟩
theorem Own.kept (h : Own e f w base v l) {row : Option Nat} (hg : w.grownBy w' row) (hne : ∀ g, v.ownBlock = some g → row ≠ some g) : Own e f w' base v l := by
  refine World.ownsRow.kept h hg ?_
  cases hv : v.ownBlock with
  | none => exact .inl rfl
  | some g => exact .inr fun e => hne g hv e.symm
theorem Own.ext (h : Own e f w base v l) (hE : Ext w w') : Own e f w' base v l := h.kept (hE.grownBy none) (fun _ _ => by simp)
theorem Own.place (h : Own e f w base v l) (h0 : 0 < l.length) :
    ∃ g cap, v = .slice (some ⟨g, 0, none⟩) l.length cap ∧ base ≤ g ∧ g < w.heap.size ∧
      (∀ (k : Nat) (x : α), l[k]? = some x → w.cell? ⟨g, k, none⟩ = some (f x)) ∧ (∀ k, w.frozen? ⟨g, k, none⟩ = false) ∧
      (∀ (k : Nat) (y : α), Own e f (w.setCell ⟨g, k, none⟩ (f y)) base v (l.set k y) ∧ w.grownBy (w.setCell ⟨g, k, none⟩ (f y)) (some g)) := by
  have h' := h
  unfold Own at h'
  obtain ⟨g, cap, hv, hb, hlt⟩ := h'.form h0
  subst hv
  refine ⟨g, cap, rfl, hb, hlt, fun k x hx => ?_, fun k => h'.frozenAt k, fun k y => ?_⟩
  · have hk := (List.getElem?_eq_some_iff.1 hx).1
    rw [h'.cellAt k (by omega), List.getElem?_map, hx]; rfl
  · have := h'.stored k (f y)
    refine ⟨?_, this.2⟩
    unfold Own
    rw [List.length_set, List.map_set]
    exact this.1
end
theorem Rd.one {α : Type} {f : α → Value} (e : TypeId) (w : World) (x : α) : Rd f (w.alloc (.cells #[f x] e)) (some ⟨w.heap.size, 0, none⟩) [x] := (Own.lit (e := e) w 0 (Nat.zero_le _) [x] (by simp)).rd.2
theorem Rd.one_at {α : Type} {f : α → Value} (e : TypeId) (w : World) (N : Nat) (x : α) (h : N = w.heap.size) : Rd f (w.alloc (.cells #[f x] e)) (some ⟨N, 0, none⟩) [x] := by subst h; exact Rd.one e w x

/-- Two values that own no block in common. -/
def Apart (v u : Value) : Prop := ∀ g, v.ownBlock = some g → u.ownBlock ≠ some g
theorem Apart.symm {v u : Value} (h : Apart v u) : Apart u v := fun g hg hv => h g hv hg

/-- From (w, v) to (w', v'): only v's own block, and new ones, have turned; v' owns v's block or a new one. -/
def Grew (w : World) (v : Value) (w' : World) (v' : Value) : Prop :=
  w.grownBy w' v.ownBlock ∧ (v'.ownBlock = v.ownBlock ∨ ∀ g, v'.ownBlock = some g → w.heap.size ≤ g)
theorem Grew.refl (w : World) (v : Value) : Grew w v w v := ⟨World.grownBy.refl w _, .inl rfl⟩
theorem Grew.trans {w1 w2 w3 : World} {v1 v2 v3 : Value} (h : Grew w1 v1 w2 v2) (k : Grew w2 v2 w3 v3) : Grew w1 v1 w3 v3 := by
  obtain ⟨h1, h2⟩ := h
  obtain ⟨k1, k2⟩ := k
  refine ⟨⟨k1.os.trans h1.os, k1.tape.trans h1.tape, k1.output.trans h1.output, Nat.le_trans h1.size k1.size, fun g hg hne => ?_⟩, ?_⟩
  · refine (k1.block g (Nat.lt_of_lt_of_le hg h1.size) fun e => ?_).trans (h1.block g hg hne)
    rcases h2 with h2 | h2
    · exact hne (e.trans h2)
    · have := h2 g e.symm
      omega
  · rcases k2 with k2 | k2
    · rcases h2 with h2 | h2
      · exact .inl (k2.trans h2)
      · exact .inr fun g hg => h2 g (k2 ▸ hg)
    · exact .inr fun g hg => Nat.le_trans h1.size (k2 g hg)
theorem Grew.ext {W w w' : World} {v v' : Value} (h : Grew w v w' v') (hE : Ext W w) (hv : ∀ g, v.ownBlock = some g → W.heap.size ≤ g) : Ext W w' := hE.grown h.1 hv
theorem Grew.mk_ext {w1 w2 w3 : World} {v1 v2 : Value} (h : Grew w1 v1 w2 v2) (hE : Ext w2 w3) : Grew w1 v1 w3 v2 := h.trans ⟨hE.grownBy _, .inl rfl⟩
theorem Grew.of_ext {w1 w2 w3 : World} {v1 v2 : Value} (hE : Ext w1 w2) (h : Grew w2 v1 w3 v2) : Grew w1 v1 w3 v2 := Grew.trans ⟨hE.grownBy _, .inl rfl⟩ h
theorem Grew.drew {w1 w2 : World} {v1 v2 : Value} (h : Grew w1 v1 w2 v2) : Grew w1 v1 w2.drew v2 := h.mk_ext ((Ext.refl _).drew)

/-- The element type's row of the table. -/
def Elem (P : Program) (e : TypeId) (z : Value) (bytes : Nat) : Prop := (P.info? e).map (fun i => (i.zero, i.size, i.bytes)) = some (some z, 1, bytes)

section
variable {P : Program} {α : Type} {f : α → Value}
/-- append onto a slice of the call's own, as an equation on the run. -/
theorem run_app (w : World) (base : Nat) (t ty e : TypeId) (z : Value) (bytes : Nat) (ht : P.underlying t = some (.slice e)) (hi : Elem P e z bytes) (hzs : z.cells.size = 1) (hf : ∀ x, (f x).oneCell' = true)
    (v : Value) (l : List α) (hown : Own e f w base v l) (A : Option Addr) (m c : Nat) (news : List α) (hm : m = news.length) (hr : Rd f w A news) (hl : l.length + news.length ≤ 1073741824) (hb : bytes ≤ 4096) (hbase : base ≤ w.heap.size) :
    ∃ v' w', (Builtin.append_ #[t, t] ty #[v, .slice A m c]).run P w = .ok v' w' ∧ Own e f w' base v' (l ++ news) ∧ Grew w v w' v' := by
  subst hm
  obtain ⟨i, hi, hz, hsz, hby⟩ := info_parts hi
  have fin : ∀ {v' w'}, w'.ownsRow base e 1 v' (l.length + news.length) (l.map f ++ news.map f) → Own e f w' base v' (l ++ news) := fun {v' w'} h => by
    unfold Own
    rw [List.length_append, List.map_append]
    exact h
  cases A with
  | none =>
    have h0 : news = [] := by
      cases news with
      | nil => rfl
      | cons x r =>
        obtain ⟨ad, h, _⟩ := hr.2 (by simp)
        cases h
    subst h0
    refine ⟨v, w, ?_, by rw [List.append_nil]; exact hown, Grew.refl w v⟩
    rcases hown.2 with ⟨rfl, _⟩ | ⟨g, cap, cur, rfl, _, _, hnc, _⟩
    · simp [Builtin.append_, run_underlying ht, sizeOf, typeInfo, hi, Builtin.lenOf, Builtin.firstCells]
    · simp [Builtin.append_, run_underlying ht, sizeOf, typeInfo, hi, Builtin.lenOf, Builtin.firstCells, hnc, storeCells]
  | some ad =>
    have hc : ∀ j u, (news.map f)[j]? = some u → w.cell? (ad.add j) = some u := by
      intro j u hu
      have hj : j < news.length := by
        have := (List.getElem?_eq_some_iff.1 hu).1
        simpa using this
      obtain ⟨ad', h, _, hc⟩ := hr.2 (by omega)
      obtain rfl := Option.some.inj h
      exact hc j u hu
    have hbig : (l.length + news.length) * bytes ≤ 140737488355328 := Nat.le_trans (Nat.mul_le_mul hl hb) (by omega)
    obtain ⟨v', w', hrun, h2, h3, _, h5⟩ := run_append_own_at (P := P) w base t ty e i z 1 bytes ht hi hz hsz hby hzs (by omega) v l.length (l.map f) hown ad news.length c (news.map f) (by simp) hc
      (fun u hu => by obtain ⟨x, _, rfl⟩ := List.mem_map.1 hu; exact hf x) (by unfold maxLen; omega) hbig hbase
    refine ⟨v', w', hrun, fin h2, h3, ?_⟩
    rcases h5 with h | h
    · exact .inl h
    · exact .inr fun g hg => by rw [h] at hg; have := Option.some.inj hg; omega

/-- .. at a list of operations. -/
theorem app {ops : Array Oper} {rest : List Oper} {o : Oper} {a : Act} {Q : Exit → Act → World → Prop} {w : World} (hgd : o.guard = none) (s x : Operand) (t : TypeId)
    (ho : o.op = .call { callee := .builtin .append, args := #[s, x], argTypes := #[t, t] }) (e : TypeId) (z : Value) (bytes : Nat) (ht : P.underlying t = some (.slice e)) (hi : Elem P e z bytes) (hzs : z.cells.size = 1) (hb : bytes ≤ 4096) (hf : ∀ x, (f x).oneCell' = true)
    (base : Nat) (v : Value) (l : List α) (hs : a.eval s = v) (hown : Own e f w base v l) (A : Option Addr) (m c : Nat) (news : List α) (hx : a.eval x = .slice A m c) (hm : m = news.length)
    (hr : Rd f w A news) (hl : l.length + news.length ≤ 1073741824) (hbase : base ≤ w.heap.size)
    (h : ∀ v' w', Own e f w' base v' (l ++ news) → Grew w v w' v' → wpList P ops Q rest (a.put o.dst v') w') : wpList P ops Q (o :: rest) a w := by
  refine wpList_plain hgd fun K hK => ?_
  obtain ⟨v', w', hrun, h1, h2⟩ := run_app (P := P) w base t o.type e z bytes ht hi hzs hf v l hown A m c news hm hr hl hb hbase
  unfold Oper.wp execOp
  simp only [ho, resolve, invoke, builtin, Sem.run_bind, Sem.run_pure, Result.andThen_ok, List.map_toArray, List.map_cons, List.map_nil, hs, hx, hrun]
  exact hK _ _ (h v' w' h1 h2)

/-- .. at one step of a region that draws its order. -/
theorem stepApp {ops : Array Oper} {o : Oper} {a : Act} {K : Act → World → Prop} {Q : Exit → Act → World → Prop} {E : Prop} {w : World} (hgd : o.guard = none) (s x : Operand) (t : TypeId)
    (ho : o.op = .call { callee := .builtin .append, args := #[s, x], argTypes := #[t, t] }) (e : TypeId) (z : Value) (bytes : Nat) (ht : P.underlying t = some (.slice e)) (hi : Elem P e z bytes) (hzs : z.cells.size = 1) (hb : bytes ≤ 4096) (hf : ∀ x, (f x).oneCell' = true)
    (base : Nat) (v : Value) (l : List α) (hs : a.eval s = v) (hown : Own e f w base v l) (A : Option Addr) (m c : Nat) (news : List α) (hx : a.eval x = .slice A m c) (hm : m = news.length)
    (hr : Rd f w A news) (hl : l.length + news.length ≤ 1073741824) (hbase : base ≤ w.heap.size)
    (h : ∀ v' w', Own e f w' base v' (l ++ news) → Grew w v w' v' → K (a.put o.dst v') w') : if Region.wanted o (yielded ops a.tmps) = true then Oper.wp P o a w K Q else E := by
  have hw : Region.wanted o (yielded ops a.tmps) = true := by simp [Region.wanted, hgd]
  rw [if_pos hw]
  obtain ⟨v', w', hrun, h1, h2⟩ := run_app (P := P) w base t o.type e z bytes ht hi hzs hf v l hown A m c news hm hr hl hb hbase
  unfold Oper.wp execOp
  simp only [ho, resolve, invoke, builtin, Sem.run_bind, Sem.run_pure, Result.andThen_ok, List.map_toArray, List.map_cons, List.map_nil, hs, hx, hrun]
  exact h v' w' h1 h2

/-- make of a slice. -/
theorem mk {ops : Array Oper} {rest : List Oper} {o : Oper} {a : Act} {Q : Exit → Act → World → Prop} {w : World} (hgd : o.guard = none) (l c : Operand) (t : TypeId) (hop : o.op = Op.makeSlice t l c)
    (e : TypeId) (z : α) (bytes : Nat) (ht : P.underlying t = some (.slice e)) (hi : Elem P e (f z) bytes) (hzs : (f z).cells = #[f z]) (hb : bytes ≤ 4096) (base : Nat) (hbase : base ≤ w.heap.size) (n : Nat) (L : Int) (hl : a.eval l = .int .i64 L) (hc : a.eval c = .int .i64 L) (hL : L = (n : Int)) (hn : n ≤ 1073741824)
    (h : ∀ w', Own e f w' base (.slice (some ⟨w.heap.size, 0, none⟩) n n) (List.replicate n z) → Ext w w' → wpList P ops Q rest (a.put o.dst (.slice (some ⟨w.heap.size, 0, none⟩) n n)) w') : wpList P ops Q (o :: rest) a w := by
  obtain ⟨i, hi, hz, hsz, hby⟩ := info_parts hi
  have hbig : i.bytes * n ≤ 281474976710656 := by rw [hby]; exact Nat.le_trans (Nat.mul_le_mul hb hn) (by omega)
  refine wpList_make_full w hgd l c t hop base e i _ 1 ht hi hz hsz .i64 .i64 L L n hl hc hL hL hbig (by unfold maxLen; omega) hbase ?_
  intro w' h1 h2
  refine h w' ?_ (Ext.of_grownBy h2)
  rw [hzs, Nat.mul_one, toList_madeCells_one] at h1
  unfold Own
  rw [List.length_replicate, List.map_replicate]
  exact h1
end

end Go.Proofs.Ytmiijlmjpaiinaa
