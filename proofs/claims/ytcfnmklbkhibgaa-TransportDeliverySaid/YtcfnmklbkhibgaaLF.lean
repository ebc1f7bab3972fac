/- The walker, part 6: memory. Blocks, slices that are read, slices of the call's own; loads, stores, append, make. Nothing of the program. -/
import Derived.Test.YtcfnmklbkhibgaaLE
import Derived.Maps.AppendAt
import Derived.Laws.AppendOwnNone
import Derived.Laws.OwnMore
namespace Go.Proofs.Ytcfnmklbkhibgaa
open Go.RowKit

/-- A heap, as a world. -/
def wd (H : Heap) : World := { (default : World) with heap := H }
def cellH (H : Heap) (p : Addr) : Option Value := (wd H).cell? p
theorem cell_wd {w : World} {H : Heap} (h : w.heap = H) (p : Addr) : w.cell? p = cellH H p := by subst h; rfl
theorem frozen_wd {w : World} {H : Heap} (h : w.heap = H) (p : Addr) : w.frozen? p = (wd H).frozen? p := by subst h; rfl

theorem block_of_add (a : Addr) (n : Nat) : (a.add n).block = a.block := by unfold Addr.add; split <;> rfl
theorem add_of_add (a : Addr) (i j : Nat) : (a.add i).add j = a.add (i + j) := by
  unfold Addr.add
  by_cases hi : i = 0 <;> by_cases hj : j = 0 <;> simp [hi, hj, Nat.add_assoc]
theorem add_head (g j : Nat) : (⟨g, 0, none⟩ : Addr).add j = ⟨g, j, none⟩ := by
  unfold Addr.add
  by_cases h : j = 0 <;> simp [h]
theorem cellH_lt {H : Heap} {p : Addr} {v : Value} (h : cellH H p = some v) : p.block < H.size := block_lt_of_cell (w := wd H) h
theorem cellH_of {H H' : Heap} {p : Addr} (h : H'[p.block]? = H[p.block]?) : cellH H' p = cellH H p := World.cell?_of_block (w := wd H) (w' := wd H') h
theorem Ext.cell {H H' : Heap} (h : Ext H H') {p : Addr} {v : Value} (hc : cellH H p = some v) : cellH H' p = some v := (cellH_of (h.at_ _ (cellH_lt hc))).trans hc
theorem Keep.cell {M : List Nat} {H H' : Heap} (h : Keep M H H') {p : Addr} {v : Value} (hc : cellH H p = some v) (hm : p.block ∉ M) : cellH H' p = some v := (cellH_of (h.at_ _ (cellH_lt hc) hm)).trans hc

/-- Block g holds these cells. -/
def Blk (H : Heap) (g : Nat) (cs : List Value) (T : TypeId) : Prop := H[g]? = some (.cells cs.toArray T (0, 0))
section
variable {H H' : Heap} {g : Nat} {cs : List Value} {T : TypeId} {M : List Nat}
theorem Blk.lt (h : Blk H g cs T) : g < H.size := (Array.getElem?_eq_some_iff.1 h).1
theorem Blk.ext (h : Blk H g cs T) (hx : Ext H H') : Blk H' g cs T := (hx.at_ g h.lt).trans h
theorem Blk.keep (h : Blk H g cs T) (hx : Keep M H H') (hm : g ∉ M) : Blk H' g cs T := (hx.at_ g h.lt hm).trans h
theorem Blk.at0 (h : Blk H g cs T) (j : Nat) : cellH H ⟨g, j, none⟩ = cs[j]? := by
  have := cell_of_row (wd H) g j cs.toArray T (0, 0) h
  simpa [cellH] using this
theorem Blk.cell (h : Blk H g cs T) {j : Nat} {v : Value} (hv : cs[j]? = some v) : cellH H ((⟨g, 0, none⟩ : Addr).add j) = some v := by rw [add_head, h.at0, hv]
theorem Blk.new (H : Heap) (cs : List Value) (T : TypeId) : Blk (H.push (.cells cs.toArray T (0, 0))) H.size cs T := by unfold Blk; simp
end

/-- A struct or an array. -/
def aggD : TypeDesc → Bool
  | .struct _ | .array _ _ => true
  | _ => false

section
variable {P : Program} {n : Nat} {o : Oper} {E : Env} {H : Heap} {v : Value} {x y : Operand} {T : TypeId} {d : TypeDesc} {p : Addr} {g : Nat} {cs : List Value} {T' : TypeId}
theorem run_isAgg (w : World) (hT : P.underlying T = some d) : (isAgg T).run P w = .ok (aggD d) w := by
  unfold isAgg
  rw [Sem.run_bind, run_underlying hT w]
  cases d <;> rfl
theorem yLoad (ho : o.op = .load T x) (hT : P.underlying T = some d) (hd : aggD d = false) (hx : ev n E x = .pointer (some p)) (hc : cellH H p = some v) : Yld P n o E H v := fun w hw => by
  have hc' : w.cell? p = some v := (cell_wd hw p).trans hc
  have hl : (loadVar T p).run P w = .ok v w := by
    simp [loadVar, run_isAgg w hT, hd, load, Sem.run, hc']
  unfold execOp
  simp only [ho, hx]
  simp [Instr.loadAt, Instr.sureAddr, hl]
/-- A whole struct or array that is a block of its own. -/
theorem yLoadB (hB : Blk H g cs T') (ho : o.op = .load T x) (hT : P.underlying T = some d) (hd : aggD d = true) (hs : ∀ w, (sizeOf T).run P w = .ok cs.length w) (hx : ev n E x = .pointer (some ⟨g, 0, none⟩)) : Yld P n o E H (.agg cs.toArray) := fun w hw => by
  have hg : w.heap[g]? = some (.cells cs.toArray T' (0, 0)) := by rw [hw]; exact hB
  have hl : (loadCells ⟨g, 0, none⟩ cs.length).run P w = .ok cs.toArray w :=
    run_loadCells_list (P := P) w ⟨g, 0, none⟩ cs fun j v hv => by
      rw [add_head, cell_of_row w g j cs.toArray T' (0, 0) hg]
      simpa using hv
  have hv : (loadVar T ⟨g, 0, none⟩).run P w = .ok (.agg cs.toArray) w := by
    simp [loadVar, run_isAgg w hT, hd, hs, hl]
  unfold execOp
  simp only [ho, hx]
  simp [Instr.loadAt, Instr.sureAddr, hv]
/-- A struct or array anywhere, its cells known. -/
theorem yLoadC (ho : o.op = .load T x) (hT : P.underlying T = some d) (hd : aggD d = true) (hs : ∀ w, (sizeOf T).run P w = .ok cs.length w) (hx : ev n E x = .pointer (some p)) (hc : ∀ j u, cs[j]? = some u → cellH H (p.add j) = some u) : Yld P n o E H (.agg cs.toArray) := fun w hw => by
  have hl : (loadCells p cs.length).run P w = .ok cs.toArray w :=
    run_loadCells_list (P := P) w p cs fun j v hv => (cell_wd hw _).trans (hc j v hv)
  have hv : (loadVar T p).run P w = .ok (.agg cs.toArray) w := by
    simp [loadVar, run_isAgg w hT, hd, hs, hl]
  unfold execOp
  simp only [ho, hx]
  simp [Instr.loadAt, Instr.sureAddr, hv]
theorem yFieldAddr {fs : Array Field} {f off tf bo : Nat} {nm tg pk : String} {em : Bool} {s : Nat} (ho : o.op = .fieldAddr T x f) (hT : P.underlying T = some (.struct fs)) (hf : fs[f]? = some ⟨nm, tf, off, em, tg, pk, bo⟩)
    (hs : ∀ w, (sizeOf tf).run P w = .ok s w) (h0 : (s == 0) = false) (hx : ev n E x = .pointer (some p)) : Yld P n o E H (.pointer (some (p.add off))) := fun w _ => by
  have h0' : s ≠ 0 := by simpa using h0
  unfold execOp
  simp only [ho, hx]
  simp [Instr.fieldAt, run_underlying hT, hf, Instr.sureAddr, fieldPlace, hs, h0']
theorem yField {fs : Array Field} {f off tf bo : Nat} {nm tg pk : String} {em : Bool} {df : TypeDesc} (ho : o.op = .field T x f) (hT : P.underlying T = some (.struct fs)) (hf : fs[f]? = some ⟨nm, tf, off, em, tg, pk, bo⟩)
    (hdf : P.underlying tf = some df) (hd : aggD df = false) (hx : ev n E x = .agg cs.toArray) (hv : cs[off]? = some v) : Yld P n o E H v := fun w _ => by
  have hp : (part tf cs.toArray off).run P w = .ok v w := by simp [part, run_isAgg w hdf, hd, hv]
  unfold execOp
  simp only [ho, hx]
  simp [Instr.field, run_underlying hT, hf, asAgg, hp]
/-- The address of an element: s cells an element. -/
theorem yIdx {e : TypeId} {k : IntKind} {len cap j s : Nat} {m : Int} (ho : o.op = .indexAddr T x y) (hT : P.underlying T = some (.slice e)) (hs : ∀ w, (sizeOf e).run P w = .ok s w) (hx : ev n E x = .slice (some p) len cap) (hy : ev n E y = .int k m)
    (hj : m = (j : Int)) (hl : j < len) : Yld P n o E H (.pointer (some (p.add (j * s)))) := fun w _ => by
  subst hj
  have hb : (0 : Int) ≤ (j : Int) ∧ (j : Int) < (len : Int) := by omega
  unfold execOp
  simp only [ho, hx, hy]
  simp [Instr.indexAt, run_underlying hT, asIntOf, hs]
  omega
theorem yIdx1 {e : TypeId} {k : IntKind} {len cap j : Nat} {m : Int} (ho : o.op = .indexAddr T x y) (hT : P.underlying T = some (.slice e)) (hs : ∀ w, (sizeOf e).run P w = .ok 1 w) (hx : ev n E x = .slice (some p) len cap) (hy : ev n E y = .int k m)
    (hj : m = (j : Int)) (hl : j < len) : Yld P n o E H (.pointer (some (p.add j))) := by
  have := yIdx (H := H) ho hT hs hx hy hj hl
  rwa [Nat.mul_one] at this
/-- .. of an array that is a variable. -/
theorem yIdxA {e : TypeId} {k : IntKind} {len j s : Nat} {m : Int} (ho : o.op = .indexAddr T x y) (hT : P.underlying T = some (.array len e)) (hs : ∀ w, (sizeOf e).run P w = .ok s w) (hx : ev n E x = .pointer (some p)) (hy : ev n E y = .int k m)
    (hj : m = (j : Int)) (hl : j < len) : Yld P n o E H (.pointer (some (p.add (j * s)))) := fun w _ => by
  subst hj
  unfold execOp
  simp only [ho, hx, hy]
  simp [Instr.indexAt, run_underlying hT, asIntOf, hs, Instr.sureAddr]
  omega
theorem yIdxA1 {e : TypeId} {k : IntKind} {len j : Nat} {m : Int} (ho : o.op = .indexAddr T x y) (hT : P.underlying T = some (.array len e)) (hs : ∀ w, (sizeOf e).run P w = .ok 1 w) (hx : ev n E x = .pointer (some p)) (hy : ev n E y = .int k m)
    (hj : m = (j : Int)) (hl : j < len) : Yld P n o E H (.pointer (some (p.add j))) := by
  have := yIdxA (H := H) ho hT hs hx hy hj hl
  rwa [Nat.mul_one] at this
end

/- WHAT MAKES A BLOCK -/
section
variable {P : Program} {n : Nat} {o : Oper} {E : Env} {H : Heap} {v : Value} {x y : Operand} {T : TypeId} {ops : List Oper} {K : Env → Heap → Prop} {l : List Oper} {d : Nat}
/-- A block with these cells. -/
def NBlk (P : Program) (n : Nat) (o : Oper) (E : Env) (mk : Addr → Value) (cs : List Value) (T : TypeId) : Prop := Nyl P n o E (fun g => mk ⟨g, 0, none⟩) (.cells cs.toArray T (0, 0))
theorem seqN {mk : Addr → Value} {cs : List Value} {T' : TypeId} (hd : o.dst = some d) (hg : wantE ops n E o = true) (h : NBlk P n o E mk cs T')
    (hk : ∀ g H', Ext H H' → Blk H' g cs T' → H.size ≤ g → g < H'.size → Seq P n ops K l (upd E d (mk ⟨g, 0, none⟩)) H') : Seq P n ops K (o :: l) E H :=
  seqE hd hg (Nyl.step h (hk _ _ (Ext.push _ _) (Blk.new _ _ _) (Nat.le_refl _) (by simp)))
theorem nAlloc {z : Value} {cs : List Value} (ho : o.op = .alloc T) (hz : ∀ w, (zeroValue T).run P w = .ok z w) (hc : z.cells = cs.toArray) : NBlk P n o E (fun p => .pointer (some p)) cs T := fun w => by
  unfold execOp
  simp only [ho]
  simp [Instr.alloc, hz, newVar, newRow, newObj, hc, Sem.run]
theorem nBox {cs : List Value} (ho : o.op = .box T x) (hx : ev n E x = v) (hc : v.cells = cs.toArray) : NBlk P n o E (fun p => .pointer (some p)) cs T := fun w => by
  unfold execOp
  simp only [ho]
  simp [Instr.box, newVar, newRow, newObj, hc, hx, Sem.run]
theorem nBoxA {cs : List Value} (ho : o.op = .box T x) (hx : ev n E x = .agg cs.toArray) : NBlk P n o E (fun p => .pointer (some p)) cs T := nBox ho hx rfl
end

/- ELEMENTS -/
/-- How an element of a slice lies in memory. -/
structure El (α : Type) where
  F : α → List Value
  sz : Nat
  pos : 0 < sz
  len : ∀ x, (F x).length = sz
  one : ∀ x, ∀ u ∈ F x, u.oneCell' = true
def El.of {α : Type} (f : α → Value) (h : ∀ x, (f x).oneCell' = true) : El α := ⟨fun x => [f x], 1, by omega, fun _ => rfl, fun x u hu => by simp at hu; subst hu; exact h x⟩
def eInt : El Int := El.of (Value.int .i64) fun _ => rfl
def eByte : El UInt8 := El.of (fun b => .int .u8 (b.toNat : Int)) fun _ => rfl
def eBool : El Bool := El.of Value.bool fun _ => rfl
def eStr : El ByteArray := El.of Value.string fun _ => rfl

section
variable {α : Type} (c : El α)
theorem El.flat_len (l : List α) : (l.flatMap c.F).length = l.length * c.sz := by
  induction l with
  | nil => simp
  | cons x l ih => rw [List.flatMap_cons, List.length_append, ih, c.len, List.length_cons, Nat.add_mul]; omega
theorem El.flat_get : ∀ (l : List α) (k i : Nat) (x : α), l[k]? = some x → i < c.sz → (l.flatMap c.F)[k * c.sz + i]? = (c.F x)[i]? := by
  intro l
  induction l with
  | nil => intro k i x h; simp at h
  | cons y l ih =>
    intro k i x h hi
    rw [List.flatMap_cons]
    cases k with
    | zero =>
      simp at h
      subst h
      rw [Nat.zero_mul, Nat.zero_add, List.getElem?_append_left (by rw [c.len]; exact hi)]
    | succ k =>
      simp at h
      rw [List.getElem?_append_right (by rw [c.len, Nat.succ_mul]; omega), c.len]
      have : (k + 1) * c.sz + i - c.sz = k * c.sz + i := by rw [Nat.succ_mul]; omega
      rw [this]
      exact ih k i x h hi
theorem El.flat_one (l : List α) : ∀ u ∈ l.flatMap c.F, u.oneCell' = true := by
  intro u hu
  obtain ⟨x, _, hx⟩ := List.mem_flatMap.1 hu
  exact c.one x u hx
end

/-- The slice at A reads as the list l. -/
def Rd {α : Type} (c : El α) (H : Heap) (A : Option Addr) (l : List α) : Prop := l ≠ [] → ∃ p, A = some p ∧ ∀ j u, (l.flatMap c.F)[j]? = some u → cellH H (p.add j) = some u
section
variable {α : Type} {c : El α} {H H' : Heap} {A : Option Addr} {l : List α} {M : List Nat} {k : Nat}
theorem Rd.nil (H : Heap) (A : Option Addr) : Rd c H A [] := fun h => absurd rfl h
theorem Rd.ext (h : Rd c H A l) (hx : Ext H H') : Rd c H' A l := fun hn => by
  obtain ⟨p, e, hc⟩ := h hn
  exact ⟨p, e, fun j u hu => hx.cell (hc j u hu)⟩
theorem Rd.keep (h : Rd c H A l) (hx : Keep M H H') (hm : ∀ p, A = some p → p.block ∉ M) : Rd c H' A l := fun hn => by
  obtain ⟨p, e, hc⟩ := h hn
  exact ⟨p, e, fun j u hu => hx.cell (hc j u hu) (by rw [block_of_add]; exact hm p e)⟩
/-- An element, its address. -/
theorem Rd.at (h : Rd c H A l) (hk : k < l.length) : ∃ p, A = some p ∧ ∀ i u, (c.F l[k])[i]? = some u → cellH H ((p.add (k * c.sz)).add i) = some u := by
  obtain ⟨p, e, hc⟩ := h (by intro h; subst h; simp at hk)
  refine ⟨p, e, fun i u hu => ?_⟩
  have hi : i < c.sz := by have := (List.getElem?_eq_some_iff.1 hu).1; rwa [c.len] at this
  rw [add_of_add]
  exact hc _ u (by rw [c.flat_get l k i l[k] (List.getElem?_eq_getElem hk) hi]; exact hu)
theorem Rd.lt (h : Rd c H A l) (hk : 0 < l.length) : ∃ p, A = some p ∧ p.block < H.size := by
  obtain ⟨p, e, hc⟩ := h.at hk
  have h0 : 0 < (c.F l[0]).length := by rw [c.len]; exact c.pos
  have := cellH_lt (hc 0 _ (List.getElem?_eq_getElem h0))
  rw [block_of_add, block_of_add] at this
  exact ⟨p, e, this⟩
theorem Rd.take (h : Rd c H A l) (k : Nat) : Rd c H A (l.take k) := fun hn => by
  obtain ⟨p, e, hc⟩ := h (by intro h; subst h; simp at hn)
  refine ⟨p, e, fun j u hu => hc j u ?_⟩
  have : l.flatMap c.F = (l.take k).flatMap c.F ++ (l.drop k).flatMap c.F := by rw [← List.flatMap_append, List.take_append_drop]
  rw [this, List.getElem?_append_left (List.getElem?_eq_some_iff.1 hu).1]
  exact hu
theorem Rd.drop (h : Rd c H A l) {cap : Nat} (hc : l.length ≤ cap) : Rd c H (if cap = k then A else A.map (·.add (k * c.sz))) (l.drop k) := fun hn => by
  have hk : k < l.length := by
    rcases Nat.lt_or_ge k l.length with h | h
    · exact h
    · exact absurd (List.drop_eq_nil_of_le h) hn
  obtain ⟨p, rfl, hcell⟩ := h (by intro h; subst h; simp at hk)
  rw [if_neg (by omega)]
  refine ⟨p.add (k * c.sz), rfl, fun j u hu => ?_⟩
  rw [add_of_add]
  refine hcell _ u ?_
  have : l.flatMap c.F = (l.take k).flatMap c.F ++ (l.drop k).flatMap c.F := by rw [← List.flatMap_append, List.take_append_drop]
  have hlen : ((l.take k).flatMap c.F).length = k * c.sz := by rw [c.flat_len, List.length_take, Nat.min_eq_left (by omega)]
  rw [this, List.getElem?_append_right (by rw [hlen]; omega), hlen]
  rw [show k * c.sz + j - k * c.sz = j by omega]
  exact hu
end
/-- .. of one cell. -/
theorem Rd.at1 {α : Type} {f : α → Value} {hf : ∀ x, (f x).oneCell' = true} {H : Heap} {A : Option Addr} {l : List α} {k : Nat} (h : Rd (El.of f hf) H A l) (hk : k < l.length) : ∃ p, A = some p ∧ cellH H (p.add k) = some (f l[k]) := by
  obtain ⟨p, e, hc⟩ := h.at hk
  refine ⟨p, e, ?_⟩
  have := hc 0 (f l[k]) rfl
  rw [add_of_add, show k * (El.of f hf).sz + 0 = k by show k * 1 + 0 = k; omega] at this
  exact this

/- SLICES OF THE CALL'S OWN -/
def Own {α : Type} (c : El α) (e : TypeId) (H : Heap) (base : Nat) (v : Value) (l : List α) : Prop := (wd H).ownsRow base e c.sz v l.length (l.flatMap c.F)
section
variable {α : Type} {c : El α} {e : TypeId} {H H' : Heap} {base : Nat} {v : Value} {l : List α} {M : List Nat}
theorem Own.nil (H : Heap) (base : Nat) : Own c e H base (.slice none 0 0) [] := World.ownsRow_nil (wd H) base e c.sz
theorem Own.mono {base' : Nat} (h : Own c e H base v l) (hb : base' ≤ base) : Own c e H base' v l := by
  refine ⟨h.1, ?_⟩
  rcases h.2 with h | ⟨g, cap, cur, h1, h2, r⟩
  · exact .inl h
  · exact .inr ⟨g, cap, cur, h1, Nat.le_trans hb h2, r⟩
theorem Own.lt (h : Own c e H base v l) : ∀ g, v.ownBlock = some g → base ≤ g ∧ g < H.size := World.ownsRow.lt h
theorem Own.keep (h : Own c e H base v l) (hx : Keep M H H') (hm : ∀ g, v.ownBlock = some g → g ∉ M) : Own c e H' base v l := by
  refine ⟨h.1, ?_⟩
  rcases h.2 with h' | ⟨g, cap, cur, rfl, hb, hg, r⟩
  · exact .inl h'
  · exact .inr ⟨g, cap, cur, rfl, hb, (hx.at_ g (Array.getElem?_eq_some_iff.1 hg).1 (hm g rfl)).trans hg, r⟩
theorem Own.ext (h : Own c e H base v l) (hx : Ext H H') : Own c e H' base v l := h.keep (hx.keep []) (fun _ _ => by simp)
theorem Own.form (h : Own c e H base v l) : ∃ A cap, v = .slice A l.length cap ∧ l.length ≤ cap ∧ Rd c H A l ∧ (∀ p, A = some p → base ≤ p.block ∧ p.block < H.size ∧ p = ⟨p.block, 0, none⟩) := by
  rcases h.2 with ⟨rfl, h0⟩ | ⟨g, cap, cur, rfl, hb, hg, hn, hm, hs, ht⟩
  · have : l = [] := List.eq_nil_of_length_eq_zero h0
    subst this
    exact ⟨none, 0, rfl, Nat.le_refl _, Rd.nil _ _, by simp⟩
  · refine ⟨_, _, rfl, hn, fun _ => ⟨_, rfl, World.ownsRow.cells h (g := g) rfl⟩, ?_⟩
    rintro p hp
    obtain rfl := Option.some.inj hp
    exact ⟨hb, (Array.getElem?_eq_some_iff.1 hg).1, rfl⟩
theorem Own.rd {n cap : Nat} {A : Option Addr} (h : Own c e H base (.slice A n cap) l) : n = l.length ∧ Rd c H A l := by
  obtain ⟨A', c', hv, _, hr, _⟩ := h.form
  injection hv with h1 h2 _
  subst h1
  exact ⟨h2, hr⟩
/-- A slice that a composite literal has made. -/
theorem Own.lit {g : Nat} (hB : Blk H g (l.flatMap c.F) e) (hb : base ≤ g) (hl : l.length ≤ 1073741824) : Own c e H base (.slice (some ⟨g, 0, none⟩) l.length l.length) l :=
  ⟨c.flat_len l, .inr ⟨g, l.length, (l.flatMap c.F).toArray, rfl, hb, hB, Nat.le_refl _, by unfold maxLen; omega, by simp [c.flat_len], by rw [← c.flat_len, List.toList_toArray]; exact List.take_of_length_le (Nat.le_refl _)⟩⟩
end

/-- The element type's row of the table. -/
def Elem (P : Program) (e : TypeId) (z : Value) (size bytes : Nat) : Prop := (P.info? e).map (fun i => (i.zero, i.size, i.bytes)) = some (some z, size, bytes)

/-- From v to v': its own block, or a new one. -/
def Grew (H : Heap) (v : Value) (H' : Heap) (v' : Value) : Prop := Keep v.ownBlock.toList H H' ∧ ∀ g, v'.ownBlock = some g → v.ownBlock = some g ∨ H.size ≤ g
theorem Grew.refl (H : Heap) (v : Value) : Grew H v H v := ⟨Keep.refl _ _, fun _ h => .inl h⟩
theorem Grew.trans {H1 H2 H3 : Heap} {v1 v2 v3 : Value} (h : Grew H1 v1 H2 v2) (k : Grew H2 v2 H3 v3) : Grew H1 v1 H3 v3 := by
  obtain ⟨h1, h2⟩ := h
  obtain ⟨k1, k2⟩ := k
  refine ⟨⟨Nat.le_trans h1.size k1.size, fun b hb hm => ?_⟩, fun g hg => ?_⟩
  · refine (k1.at_ b (Nat.lt_of_lt_of_le hb h1.size) fun hm' => ?_).trans (h1.at_ b hb hm)
    rw [Option.mem_toList] at hm' hm
    rcases h2 b hm' with h | h
    · exact hm h
    · omega
  · rcases k2 g hg with h | h
    · exact h2 g h
    · exact .inr (Nat.le_trans h1.size h)
theorem Grew.of_ext {H1 H2 : Heap} (h : Ext H1 H2) (v : Value) : Grew H1 v H2 v := ⟨h.keep _, fun _ h => .inl h⟩
/-- What the caller sees: nothing of what was there before v's block. -/
theorem Grew.ext {H0 H H' : Heap} {v v' : Value} (h : Grew H v H' v') (hx : Ext H0 H) (hv : ∀ g, v.ownBlock = some g → H0.size ≤ g) : Ext H0 H' :=
  ⟨Nat.le_trans hx.size h.1.size, fun b hb => (h.1.at_ b (Nat.lt_of_lt_of_le hb hx.size) fun hm => by rw [Option.mem_toList] at hm; have := hv b hm; omega).trans (hx.at_ b hb)⟩

section
variable {P : Program} {α : Type} {c : El α}
theorem run_app (w : World) (base : Nat) (t ty e : TypeId) (z : Value) (bytes : Nat) (ht : P.underlying t = some (.slice e)) (hi : Elem P e z c.sz bytes) (hzs : z.cells.size = c.sz) (hb : bytes ≤ 4096)
    (v : Value) (l : List α) (hown : Own c e w.heap base v l) (A : Option Addr) (m cap : Nat) (news : List α) (hm : m = news.length) (hr : Rd c w.heap A news) (hl : l.length + news.length ≤ 1073741824) (hbase : base ≤ w.heap.size) :
    ∃ v' w', (Builtin.append_ #[t, t] ty #[v, .slice A m cap]).run P w = .ok v' w' ∧ Same w w' ∧ Own c e w'.heap base v' (l ++ news) ∧ Grew w.heap v w'.heap v' := by
  subst hm
  obtain ⟨i, hi, hz, hsz, hby⟩ := info_parts hi
  have hown' : w.ownsRow base e c.sz v l.length (l.flatMap c.F) := hown
  rcases Nat.eq_zero_or_pos news.length with h0 | h0
  · have hn : news = [] := List.eq_nil_of_length_eq_zero h0
    subst hn
    refine ⟨v, w, ?_, Same.refl w, by rw [List.append_nil]; exact hown, Grew.refl _ _⟩
    rcases A with _ | ad
    · rcases hown'.2 with ⟨rfl, hl0⟩ | ⟨g, cap', cur, rfl, _, _, hnc, _⟩
      · simp [Builtin.append_, run_underlying ht, sizeOf, typeInfo, hi, Builtin.lenOf, Builtin.firstCells]
      · simp [Builtin.append_, run_underlying ht, sizeOf, typeInfo, hi, Builtin.lenOf, Builtin.firstCells, hnc, storeCells]
    · rcases hown'.2 with ⟨rfl, hl0⟩ | ⟨g, cap', cur, rfl, _, _, hnc, _⟩
      · simp [Builtin.append_, run_underlying ht, sizeOf, typeInfo, hi, Builtin.lenOf, Builtin.firstCells, loadCells, loadCellsFrom]
      · simp [Builtin.append_, run_underlying ht, sizeOf, typeInfo, hi, Builtin.lenOf, Builtin.firstCells, hnc, storeCells, loadCells, loadCellsFrom]
  · obtain ⟨ad, rfl, hc⟩ := hr (by intro h; subst h; simp at h0)
    have hbig : (l.length + news.length) * bytes ≤ 140737488355328 := Nat.le_trans (Nat.mul_le_mul hl hb) (by omega)
    obtain ⟨v', w', hrun, h2, h3, _, h5⟩ := run_append_own_at (P := P) w base t ty e i z c.sz bytes ht hi hz hsz hby hzs c.pos v l.length (l.flatMap c.F) hown' ad news.length cap (news.flatMap c.F) (c.flat_len news) hc
      (c.flat_one news) (by unfold maxLen; omega) hbig hbase
    refine ⟨v', w', hrun, ⟨h3.os, h3.tape, h3.output⟩, ?_, ⟨h3.size, fun b hb hm => h3.block b hb fun e => hm (by rw [Option.mem_toList]; exact e.symm)⟩, fun g hg => ?_⟩
    · show (wd w'.heap).ownsRow base e c.sz v' _ _
      rw [List.length_append, List.flatMap_append]
      exact h2
    · rcases h5 with h | h
      · exact .inl (h ▸ hg)
      · rw [h] at hg; exact .inr (Nat.le_of_eq (Option.some.inj hg))

variable {n : Nat} {o : Oper} {E : Env} {H : Heap} {K : Value → Heap → Prop} {x y : Operand} {t e : TypeId}
/-- append to a slice of the call's own. -/
theorem stepApp {z : Value} {bytes : Nat} {base : Nat} {v : Value} {l : List α} (hown : Own c e H base v l) (ho : o.op = .call { callee := .builtin .append, args := #[x, y], argTypes := #[t, t] }) (ht : P.underlying t = some (.slice e)) (hi : Elem P e z c.sz bytes) (hzs : z.cells.size = c.sz) (hb : bytes ≤ 4096)
    (hx : ev n E x = v) {A : Option Addr} {m cap : Nat} {news : List α} (hy : ev n E y = .slice A m cap) (hm : m = news.length) (hr : Rd c H A news)
    (hl : l.length + news.length ≤ 1073741824) (hbase : base ≤ H.size) (hk : ∀ v' H', Own c e H' base v' (l ++ news) → Grew H v H' v' → K v' H') : Step P n o E H K := by
  intro w0 w hs hw
  subst hw
  obtain ⟨v', w', hrun, h1, h2, h3⟩ := run_app (P := P) w base t o.type e z bytes ht hi hzs hb v l hown A m cap news hm hr hl hbase
  have : (execOp (ev n E) o).run P w = .ok (.value v') w' := by
    unfold execOp
    simp only [ho, resolve, invoke, builtin, Sem.run_bind, Sem.run_pure, Result.andThen_ok, List.map_toArray, List.map_cons, List.map_nil, hx, hy, hrun]
  rw [this]
  exact ⟨hs.trans h1, hk v' w'.heap h2 h3⟩

/-- make of a slice. -/
theorem stepMake {z : α} {zv : Value} {bytes : Nat} {a b : Operand} (ho : o.op = .makeSlice t a b) (ht : P.underlying t = some (.slice e)) (hi : Elem P e zv c.sz bytes) (hzs : zv.cells.toList = c.F z) (hb : bytes ≤ 4096) {m : Nat} {k : Int} (ha : ev n E a = .int .i64 k) (hb' : ev n E b = .int .i64 k)
    (hk' : k = (m : Int)) (hm : m ≤ 1073741824) (hk : ∀ g H', Ext H H' → H.size ≤ g → Own c e H' H.size (.slice (some ⟨g, 0, none⟩) m m) (List.replicate m z) → K (.slice (some ⟨g, 0, none⟩) m m) H') : Step P n o E H K := by
  intro w0 w hs hw
  subst hw
  obtain ⟨i, hi, hz, hsz, hby⟩ := info_parts hi
  have hbig : i.bytes * m ≤ 281474976710656 := by rw [hby]; exact Nat.le_trans (Nat.mul_le_mul hb hm) (by omega)
  subst hk'
  have hbi : (i.bytes : Int) * (m : Int) ≤ 281474976710656 := by
    have h : ((i.bytes * m : Nat) : Int) ≤ 281474976710656 := by omega
    rwa [Int.natCast_mul] at h
  have hrun := run_make (P := P) w t e i zv ht hi hz .i64 .i64 (m : Int) (m : Int) (by omega) (by omega) hbi (by omega)
  simp only [Int.toNat_natCast, hsz] at hrun
  have hex : (execOp (ev n E) o).run P w = .ok (.value (.slice (some ⟨w.heap.size, 0, none⟩) m m)) (w.alloc (.cells (madeCells zv.cells (m * c.sz)) e)) := by
    unfold execOp
    simp only [ho, ha, hb']
    simp [hrun]
  rw [hex]
  refine ⟨⟨hs.os, hs.tape, hs.output⟩, hk _ _ (Ext.push _ _) (Nat.le_refl _) ?_⟩
  have hcells : madeCells zv.cells (m * c.sz) = ((List.replicate m z).flatMap c.F).toArray := by
    have hzsz : zv.cells.size = c.sz := by rw [← Array.length_toList, hzs, c.len]
    apply Array.ext
    · rw [size_madeCells, List.size_toArray, c.flat_len, List.length_replicate]
    · intro j h1 h2
      have hj : j < m * c.sz := by rwa [size_madeCells] at h1
      have hmod : j % c.sz < c.sz := Nat.mod_lt _ c.pos
      have hdiv : j / c.sz < m := by rw [Nat.div_lt_iff_lt_mul c.pos]; exact hj
      have e1 : (madeCells zv.cells (m * c.sz))[j]? = (c.F z)[j % c.sz]? := by
        rw [← hzs]
        simp only [madeCells, Array.getElem?_map, Array.getElem?_range, hj, if_true, Option.map_some, hzsz, Array.getElem?_toList]
        rw [getElem!_pos zv.cells _ (by rw [hzsz]; exact hmod)]
        rw [Array.getElem?_eq_getElem (by rw [hzsz]; exact hmod)]
      have e2 := c.flat_get (List.replicate m z) (j / c.sz) (j % c.sz) z (by simp [hdiv]) hmod
      rw [Nat.div_add_mod'] at e2
      have : (madeCells zv.cells (m * c.sz))[j]? = ((List.replicate m z).flatMap c.F).toArray[j]? := by
        rw [e1, ← e2]; simp
      rw [Array.getElem?_eq_getElem h1, Array.getElem?_eq_getElem h2] at this
      exact Option.some.inj this
  have := Own.lit (c := c) (e := e) (H := w.heap.push (.cells (madeCells zv.cells (m * c.sz)) e)) (base := w.heap.size) (l := List.replicate m z) (g := w.heap.size) (by unfold Blk; rw [← hcells]; simp) (Nat.le_refl _) (by simpa using hm)
  simp only [List.length_replicate] at this
  exact this

/- STORES -/
theorem run_store_var {T : TypeId} {v : Value} {p : Addr} (w : World) (hs1 : ∀ w, (sizeOf T).run P w = .ok 1 w) (hv : v.cells = #[v]) (hv1 : v.oneCell' = true) {u : Value} (hc : w.cell? p = some u) (hf : w.frozen? p = false) :
    (Instr.storeAt T (.pointer (some p)) v).run P w = .ok () (w.setCell p v) := by
  have h0 : p.add 0 = p := rfl
  simp [Instr.storeAt, Instr.sureAddr, storeVar, hs1, hv, storeCells, h0, run_store P w p v .plain hv1, hc, hf]
theorem step_store {T : TypeId} {v : Value} {p : Addr} (ho : o.op = .store T x y) (hs1 : ∀ w, (sizeOf T).run P w = .ok 1 w) (hx : ev n E x = .pointer (some p)) (hy : ev n E y = v) (hv : v.cells = #[v]) (hv1 : v.oneCell' = true)
    {u : Value} (hc : cellH H p = some u) (hf : (wd H).frozen? p = false) (hk : K undef ((wd H).setCell p v).heap) : Step P n o E H K := by
  intro w0 w hs hw
  have hr := run_store_var (P := P) w hs1 hv hv1 ((cell_wd hw p).trans hc) ((frozen_wd hw p).trans hf)
  have hex : (execOp (ev n E) o).run P w = .ok .skip (w.setCell p v) := by
    unfold execOp
    simp only [ho, hx, hy]
    simp [hr]
  rw [hex]
  subst hw
  exact ⟨⟨hs.os, hs.tape, hs.output⟩, hk⟩
theorem set_keep (H : Heap) (p : Addr) (v : Value) : Keep [p.block] H ((wd H).setCell p v).heap :=
  ⟨by simp [wd, World.setCell], fun b _ hm => heap_setCell_other (wd H) p b v (by simpa using hm)⟩
/-- A store into one cell of a block. -/
theorem stepStore {T T' : TypeId} {cs : List Value} {g j : Nat} {v : Value} (ho : o.op = .store T x y) (hs1 : ∀ w, (sizeOf T).run P w = .ok 1 w) (hx : ev n E x = .pointer (some ((⟨g, 0, none⟩ : Addr).add j))) (hy : ev n E y = v) (hv : v.cells = #[v]) (hv1 : v.oneCell' = true)
    (hB : Blk H g cs T') (hj : j < cs.length) (hk : ∀ H', Blk H' g (cs.set j v) T' → Keep [g] H H' → K undef H') : Step P n o E H K := by
  rw [add_head] at hx
  refine step_store ho hs1 hx hy hv hv1 (u := cs[j]) ?_ (frozen_of_row (wd H) g j cs.toArray T' hB) (hk _ ?_ (set_keep H ⟨g, j, none⟩ v))
  · rw [hB.at0, List.getElem?_eq_getElem hj]
  · have := heap_setCell_same (wd H) g j cs.toArray T' v hB
    unfold Blk
    rw [this]
    simp
/-- .. the block's first, and alone. -/
theorem stepStore0 {T T' : TypeId} {cs : List Value} {g : Nat} {v : Value} (ho : o.op = .store T x y) (hs1 : ∀ w, (sizeOf T).run P w = .ok 1 w) (hx : ev n E x = .pointer (some ⟨g, 0, none⟩)) (hy : ev n E y = v) (hv : v.cells = #[v]) (hv1 : v.oneCell' = true)
    (hB : Blk H g cs T') (hj : 0 < cs.length) (hk : ∀ H', Blk H' g (cs.set 0 v) T' → Keep [g] H H' → K undef H') : Step P n o E H K := stepStore (j := 0) ho hs1 hx hy hv hv1 hB hj hk
/-- A store of a whole struct or array into a block of its own. -/
theorem stepStoreB {T T' : TypeId} {cs vs : List Value} {g : Nat} (ho : o.op = .store T x y) (hs : (P.info? T).map (·.size) = some vs.length) (hx : ev n E x = .pointer (some ⟨g, 0, none⟩)) (hy : ev n E y = .agg vs.toArray) (h1 : vs.all (·.oneCell') = true)
    (hB : Blk H g cs T') (hl : cs.length = vs.length) (hk : ∀ H', Blk H' g vs T' → Keep [g] H H' → K undef H') : Step P n o E H K := by
  intro w0 w hw0 hw
  subst hw
  have hr := run_storeVar_row (P := P) w g T' T cs.toArray vs.toArray hB (by simpa using hs) (by simpa using hl) (by simpa using h1)
  have hex : (execOp (ev n E) o).run P w = .ok .skip (w.setRow g vs.toArray) := by
    unfold execOp
    simp only [ho, hx, hy]
    simp [Instr.storeAt, Instr.sureAddr, hr]
  rw [hex]
  refine ⟨⟨hw0.os, hw0.tape, hw0.output⟩, hk _ ?_ ⟨by simp, fun b _ hm => ?_⟩⟩
  · exact setRow_heap w g cs.toArray vs.toArray T' _ hB
  · exact setRow_other w g b _ (by simpa using hm)

/-- A store into an element (one cell) of a slice of the call's own. -/
theorem stepStoreOwn {T e : TypeId} {f : α → Value} {hf : ∀ x, (f x).oneCell' = true} {base j : Nat} {l : List α} {A : Option Addr} {m cap : Nat} {p : Addr} {z : α} (hown : Own (El.of f hf) e H base (.slice A m cap) l) (ho : o.op = .store T x y) (hs1 : ∀ w, (sizeOf T).run P w = .ok 1 w) (hx : ev n E x = .pointer (some (p.add j))) (hy : ev n E y = f z) (hv : (f z).cells = #[f z])
    (hA : A = some p) (hj : j < l.length) (hk : ∀ H', Own (El.of f hf) e H' base (.slice A m cap) (l.set j z) → Keep [p.block] H H' → K undef H') : Step P n o E H K := by
  subst hA
  have hown' := hown
  rcases hown.2 with ⟨h', h0⟩ | ⟨g, cap', cur, h', hb, hg, hnc, hcm, hcs, htake⟩
  · omega
  · injection h' with h1 h2 h3
    have hp : p = ⟨g, 0, none⟩ := Option.some.inj h1
    subst hp; subst h2; subst h3
    rw [add_head] at hx
    have hgot : cellH H ⟨g, j, none⟩ = some (f l[j]) := by
      obtain ⟨p, hp, hc⟩ := (Own.rd hown').2.at1 hj
      obtain rfl := Option.some.inj hp
      rwa [add_head] at hc
    refine step_store ho hs1 hx hy hv (hf z) hgot (frozen_of_row (wd H) g j cur e hg) (hk _ ?_ (set_keep H ⟨g, j, none⟩ (f z)))
    have := World.ownsRow.stored (w := wd H) hown j (f z)
    have e1 : (l.flatMap (El.of f hf).F).set j (f z) = (l.set j z).flatMap (El.of f hf).F := by
      show (l.flatMap fun x => [f x]).set j (f z) = (l.set j z).flatMap fun x => [f x]
      rw [← List.map_eq_flatMap, ← List.map_eq_flatMap, List.map_set]
    have h5 := this.1
    rw [e1] at h5
    show (wd _).ownsRow base e _ _ _ _
    rw [List.length_set]
    exact h5
end
end Go.Proofs.Ytcfnmklbkhibgaa
