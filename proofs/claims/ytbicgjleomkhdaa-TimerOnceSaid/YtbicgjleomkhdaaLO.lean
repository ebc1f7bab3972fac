/- Maps of integers to true: made, asked, given a key that they lack. -/
import Derived.Test.YtbicgjleomkhdaaLN
import Derived.MapKept
namespace Go.Proofs.Ytbicgjleomkhdaa
theorem app_ty {P : Program} {t u e ty : TypeId} {B A : Option Addr} {m k cp cq sz : Nat} {w : World} (ht : P.underlying t = some (.slice e)) (hu : P.underlying u = some (.slice e)) (hs : ∀ w, (sizeOf e).run P w = .ok sz w) :
    (Builtin.append_ #[t, u] ty #[.slice B m cp, .slice A k cq]).run P w = (Builtin.append_ #[t, t] ty #[.slice B m cp, .slice A k cq]).run P w := by
  have h1 := run_underlying (w := w) ht
  have h2 := run_underlying (w := w) hu
  simp only [Builtin.append_, List.getElem?_toArray, List.getElem?_cons_zero, List.getElem?_cons_succ, Sem.run_bind, h1, h2, hs, Result.andThen_ok, Sem.run_pure]
section
variable {P : Program} {α : Type} {c : El α} {n : Nat} {o : Oper} {E : Env} {H : Heap} {K : Value → Heap → Prop} {x y : Operand} {t u e : TypeId}
/-- append of a slice of another type. -/
theorem stepAppU {z : Value} {bytes : Nat} {base : Nat} {v : Value} {l : List α} (hown : Own c e H base v l) (ho : o.op = .call { callee := .builtin .append, args := #[x, y], argTypes := #[t, u] }) (ht : P.underlying t = some (.slice e)) (hu : P.underlying u = some (.slice e)) (hi : Elem P e z c.sz bytes) (hzs : z.cells.size = c.sz) (hb : bytes ≤ 4096)
    (hx : ev n E x = v) {A : Option Addr} {m cap : Nat} {news : List α} (hy : ev n E y = .slice A m cap) (hm : m = news.length) (hr : Rd c H A news)
    (hl : l.length + news.length ≤ 1073741824) (hbase : base ≤ H.size) (hk : ∀ v' H', Own c e H' base v' (l ++ news) → Grew H v H' v' → K v' H') : Step P n o E H K := by
  intro w0 w hs hw
  subst hw
  obtain ⟨v', w', hrun, h1, h2, h3⟩ := run_app (P := P) w base t o.type e z bytes ht hi hzs hb v l hown A m cap news hm hr hl hbase
  obtain ⟨B, cp, rfl, -⟩ := hown.form
  obtain ⟨i, hi', -, hsz, -⟩ := info_parts hi
  rw [← app_ty ht hu (sz := c.sz) (fun w => by simp [sizeOf, typeInfo, hi', hsz])] at hrun
  have : (execOp (ev n E) o).run P w = .ok (.value v') w' := by
    unfold execOp
    simp only [ho, resolve, invoke, builtin, Sem.run_bind, Sem.run_pure, Result.andThen_ok, List.map_toArray, List.map_cons, List.map_nil, hx, hy, hrun]
  rw [this]
  exact ⟨hs.trans h1, hk v' w'.heap h2 h3⟩
end
section
variable {P : Program} {n : Nat} {o : Oper} {E : Env} {H : Heap} {K : Value → Heap → Prop} {x y z : Operand} {T k e : TypeId} {v : Value}
/-- The block is a map with these keys, each with the value true. -/
def IntSet (H : Heap) (g : Nat) (l : List Int) : Prop := ∃ es clock, H[g]? = some (.map es clock) ∧ es.toList.map (fun q => (q.key, q.val)) = l.map fun a => (Value.int .i64 a, Value.bool true)
theorem IntSet.lt {g : Nat} {l : List Int} (h : IntSet H g l) : g < H.size := by
  obtain ⟨es, c, h, -⟩ := h
  exact (Array.getElem?_eq_some_iff.1 h).1
theorem IntSet.ext {H' : Heap} {g : Nat} {l : List Int} (h : IntSet H g l) (hx : Ext H H') : IntSet H' g l := by
  have hl := h.lt
  obtain ⟨es, c, h, h2⟩ := h
  exact ⟨es, c, by rw [hx.at_ g hl]; exact h, h2⟩
theorem IntSet.keep {H' : Heap} {g : Nat} {l : List Int} {M : List Nat} (h : IntSet H g l) (hx : Keep M H H') (hg : g ∉ M) : IntSet H' g l := by
  have hl := h.lt
  obtain ⟨es, c, h, h2⟩ := h
  exact ⟨es, c, by rw [hx.at_ g hl hg]; exact h, h2⟩
theorem stepMakeMap (ho : o.op = .makeMap T none) (hk : ∀ g H', Ext H H' → IntSet H' g [] → H.size ≤ g → g < H'.size → K (.map (some g)) H') : Step P n o E H K := by
  intro w0 w hw0 hw
  subst hw
  have hrun : (execOp (ev n E) o).run P w = .ok (.value (.map (some w.heap.size))) (w.alloc (.map #[] 0)) := by
    unfold execOp
    simp only [ho]
    simp [Instr.makeMap]
  rw [hrun]
  have e1 : (w.alloc (.map #[] 0)).heap = w.heap.push (.map #[] 0) := rfl
  refine ⟨⟨hw0.os, hw0.tape, hw0.output⟩, hk _ _ ?_ ⟨#[], 0, ?_, rfl⟩ (Nat.le_refl _) ?_⟩
  · rw [e1]; exact Ext.push _ _
  · rw [e1]; simp
  · rw [e1]; simp
theorem set_keys {es : Array MapEntry} {l : List Int} (h : es.toList.map (fun q => (q.key, q.val)) = l.map fun a => (Value.int .i64 a, Value.bool true)) : ∀ q ∈ es.toList, ∃ a ∈ l, q.key = .int .i64 a ∧ q.val = .bool true := fun q hq => by
  have : (q.key, q.val) ∈ l.map fun a => (Value.int .i64 a, Value.bool true) := h ▸ List.mem_map_of_mem (f := fun q : MapEntry => (q.key, q.val)) hq
  obtain ⟨a, ha, he⟩ := List.mem_map.1 this
  injection he with h1 h2
  exact ⟨a, ha, h1.symm, h2.symm⟩
theorem set_has {es : Array MapEntry} {l : List Int} (h : es.toList.map (fun q => (q.key, q.val)) = l.map fun a => (Value.int .i64 a, Value.bool true)) {a : Int} (ha : a ∈ l) : ∃ q ∈ es.toList, q.key = .int .i64 a := by
  have : (Value.int .i64 a, Value.bool true) ∈ es.toList.map (fun q => (q.key, q.val)) := h ▸ List.mem_map_of_mem (f := fun a => (Value.int .i64 a, Value.bool true)) ha
  obtain ⟨q, hq, he⟩ := List.mem_map.1 this
  injection he with h1 h2
  exact ⟨q, hq, h1⟩
theorem yLookupB {g : Nat} {l : List Int} {a : Int} (hS : IntSet H g l) (ho : o.op = .lookup T x y false) (hT : P.underlying T = some (.map k e)) (hk : P.underlying k = some (.int .i64)) (hz : ∀ w, (zeroValue e).run P w = .ok (.bool false) w)
    (hx : ev n E x = .map (some g)) (hy : ev n E y = .int .i64 a) : Yld P n o E H (.bool (decide (a ∈ l))) := fun w hw => by
  subst hw
  obtain ⟨es, c, hb, he⟩ := hS
  have hkey : MapKept.IsKey (.int .i64) (.int .i64 a) := by simp [MapKept.IsKey]
  have hc : ∀ em, (Instr.checkKey em 10000 k (.int .i64 a)).run P w = .ok () w := fun em => MapKept.run_checkKey (k := .int .i64 a) hk hkey em 9999
  have hks : ∀ q ∈ es.toList, MapKept.IsKey (.int .i64) q.key := fun q hq => by
    obtain ⟨b, -, h1, -⟩ := set_keys he q hq
    rw [h1]
    simp [MapKept.IsKey]
  unfold execOp
  simp only [ho, hx, hy]
  rcases MapKept.findNow_spec hkey es.toList 0 hks with ⟨h1, h2⟩ | ⟨j, q, h1, h2, h3⟩
  · have hm : a ∉ l := fun ha => by
      obtain ⟨q, hq, hqe⟩ := set_has he ha
      exact h2 q hq hqe
    simp [Instr.lookup, run_underlying hT, MapKept.run_getObj_map hb, hc, MapKept.run_findKey hk h1, hz, Result.andThen, hm]
  · have hq : q ∈ es.toList := List.mem_of_getElem? h2
    obtain ⟨b, hb1, hb2, hb3⟩ := set_keys he q hq
    have hm : a ∈ l := by
      rw [h3] at hb2
      injection hb2 with _ hb2
      rw [hb2]
      exact hb1
    simp [Instr.lookup, run_underlying hT, MapKept.run_getObj_map hb, hc, MapKept.run_findKey hk h1, Result.andThen, hm, hb3]
theorem stepMapNew {g : Nat} {l : List Int} {a : Int} (hS : IntSet H g l) (hn : a ∉ l) (ho : o.op = .mapUpdate T x y z) (hT : P.underlying T = some (.map k e)) (hk : P.underlying k = some (.int .i64))
    (hx : ev n E x = .map (some g)) (hy : ev n E y = .int .i64 a) (hv : ev n E z = .bool true) (hK : ∀ H', IntSet H' g (l ++ [a]) → Keep [g] H H' → K undef H') : Step P n o E H K := by
  intro w0 w hw0 hw
  subst hw
  obtain ⟨es, c, hb, he⟩ := hS
  have hkey : MapKept.IsKey (.int .i64) (.int .i64 a) := by simp [MapKept.IsKey]
  have hc : ∀ em, (Instr.checkKey em 10000 k (.int .i64 a)).run P w = .ok () w := fun em => MapKept.run_checkKey (k := .int .i64 a) hk hkey em 9999
  have hks : ∀ q ∈ es.toList, MapKept.IsKey (.int .i64) q.key := fun q hq => by
    obtain ⟨b, -, h1, -⟩ := set_keys he q hq
    rw [h1]
    simp [MapKept.IsKey]
  rcases MapKept.findNow_spec hkey es.toList 0 hks with ⟨h1, h2⟩ | ⟨j, q, h1, h2, h3⟩
  · have hrun : (execOp (ev n E) o).run P w = .ok .skip { w with heap := w.heap.setIfInBounds g (.map (es.push { key := .int .i64 a, val := .bool true, born := c }) (c + 1)) } := by
      unfold execOp
      simp only [ho, hx, hy, hv]
      simp [Instr.mapUpdate, run_underlying hT, MapKept.run_getObj_map hb, hc, MapKept.run_findKey hk h1, MapKept.run_setObj_map _ hb, Result.andThen]
    rw [hrun]
    obtain ⟨hs1, hs2⟩ := MapKept.heap_set (o' := .map (es.push { key := .int .i64 a, val := .bool true, born := c }) (c + 1)) hb
    exact ⟨⟨hw0.os, hw0.tape, hw0.output⟩, hK _ ⟨_, _, hs1, by simp [he]⟩ ⟨by simp, fun b _ hm => hs2 b (by simpa using hm)⟩⟩
  · exfalso
    have hq : q ∈ es.toList := List.mem_of_getElem? h2
    obtain ⟨b, hb1, hb2, hb3⟩ := set_keys he q hq
    rw [h3] at hb2
    injection hb2 with _ hb2
    exact hn (hb2 ▸ hb1)
end
end Go.Proofs.Ytbicgjleomkhdaa
