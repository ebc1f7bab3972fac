/- The walker: rows as they lie, copy, append of zeros, functions of the model's own. Nothing of the program. -/
import Derived.Test.YtcfnmklbkhibgaaLL
import Derived.Laws.CopyRow
import Derived.Lib.AppendZerosOnto
import Derived.Lib.Overlaps
namespace Go.Proofs.Ytcfnmklbkhibgaa
open Go.RowKit

section
variable {α : Type} {c : El α} {e : TypeId} {H H' : Heap} {base g n cap : Nat} {l : List α}
theorem Own.raw (h : Own c e H base (.slice (some ⟨g, 0, none⟩) n cap) l) : ∃ cur, Blk H g cur e ∧ cur.length = cap * c.sz ∧ cur.take (l.length * c.sz) = l.flatMap c.F ∧ base ≤ g ∧ n = l.length ∧ l.length ≤ cap ∧ cap ≤ maxLen := by
  obtain ⟨hn, -⟩ := Own.rd h
  rcases h.2 with ⟨h', h0⟩ | ⟨g', cap', cur, h', hb, hg, hnc, hcm, hcs, htake⟩
  · cases h'
  · injection h' with h1 h2 h3
    injection h1 with h1
    injection h1 with h1
    subst h1; subst h3
    exact ⟨cur.toList, by unfold Blk; exact hg, by simpa using hcs, htake, hb, hn, hnc, hcm⟩
theorem Own.ofRaw {cur : List Value} (hB : Blk H g cur e) (hc : cur.length = cap * c.sz) (ht : cur.take (l.length * c.sz) = l.flatMap c.F) (hb : base ≤ g) (hn : l.length ≤ cap) (hm : cap ≤ maxLen) : Own c e H base (.slice (some ⟨g, 0, none⟩) l.length cap) l :=
  ⟨c.flat_len l, .inr ⟨g, cap, cur.toArray, rfl, hb, hB, hn, hm, by simpa using hc, by simpa using ht⟩⟩
/-- The front of a slice of the call's own. -/
theorem Own.front {A : Option Addr} (h : Own c e H base (.slice A n cap) l) (k : Nat) (hk : k ≤ l.length) : Own c e H base (.slice A k cap) (l.take k) := by
  obtain ⟨hn, -⟩ := Own.rd h
  have hlk : (l.take k).length = k := by rw [List.length_take]; omega
  rcases h.2 with ⟨h', h0⟩ | ⟨g', cap', cur, h', hb, hg, hnc, hcm, hcs, htake⟩
  · injection h' with h1 h2 h3
    have hl : l = [] := List.eq_nil_of_length_eq_zero h0
    subst hl
    obtain rfl : k = 0 := by simpa using hk
    subst h1; subst h3
    exact Own.nil _ _
  · injection h' with h1 h2 h3
    subst h1; subst h3
    have := Own.ofRaw (c := c) (l := l.take k) (base := base) (cap := cap) (cur := cur.toList) (by unfold Blk; exact hg) (by simpa using hcs) (by
      have h5 : cur.toList.take (k * c.sz) = (cur.toList.take (l.length * c.sz)).take (k * c.sz) := by rw [List.take_take, Nat.min_eq_left (Nat.mul_le_mul_right _ hk)]
      rw [hlk, h5, htake]
      have h6 : l.flatMap c.F = (l.take k).flatMap c.F ++ (l.drop k).flatMap c.F := by rw [← List.flatMap_append, List.take_append_drop]
      rw [h6, List.take_left' (by rw [c.flat_len, hlk])]) hb (by rw [hlk]; omega) hcm
    rwa [hlk] at this
end

section
variable {P : Program} {n : Nat} {o : Oper} {E : Env} {H : Heap} {K : Value → Heap → Prop} {x y : Operand} {t u e T tn : TypeId}
theorem firstCells_run (w : World) (sz m : Nat) (A : Option Addr) (n c : Nat) (cs : List Value) (hn : cs.length = m * sz) (hr : cs ≠ [] → ∃ a, A = some a ∧ ∀ j v, cs[j]? = some v → w.cell? (a.add j) = some v) :
    (Builtin.firstCells sz m (.slice A n c)).run P w = .ok cs.toArray w := by
  by_cases h0 : cs = []
  · subst h0
    have hm : m * sz = 0 := hn.symm
    cases A with
    | none => simp [Builtin.firstCells]
    | some a => simp [Builtin.firstCells, hm, loadCells, loadCellsFrom]
  · obtain ⟨a, rfl, hc⟩ := hr h0
    have := run_loadCells_list (P := P) w a cs hc
    simp only [Builtin.firstCells, ← hn, this]
/-- copy into a row of the call's own. -/
theorem stepCopy {sz g off dLen dCap sLen sCap : Nat} {A : Option Addr} {cur cs : List Value} {T' : TypeId} (ho : o.op = .call { callee := .builtin .copy, args := #[x, y], argTypes := #[t, u] }) (ht : P.underlying t = some (.slice e)) (hs : ∀ w, (sizeOf e).run P w = .ok sz w)
    (hx : ev n E x = .slice (some ((⟨g, 0, none⟩ : Addr).add off)) dLen dCap) (hy : ev n E y = .slice A sLen sCap) (hB : Blk H g cur T') (hn : cs.length = Nat.min sLen dLen * sz) (hr : cs ≠ [] → ∃ a, A = some a ∧ ∀ j v, cs[j]? = some v → cellH H (a.add j) = some v)
    (hfit : off + cs.length ≤ cur.length) (h1 : ∀ v ∈ cs, v.oneCell' = true)
    (hk : ∀ H', Blk H' g (cur.take off ++ cs ++ cur.drop (off + cs.length)) T' → Keep [g] H H' → K (.int .i64 ((Nat.min sLen dLen : Nat) : Int)) H') : Step P n o E H K := by
  intro w0 w hw0 hw
  subst hw
  rw [add_head] at hx
  have hf := firstCells_run (P := P) w sz (Nat.min sLen dLen) A sLen sCap cs hn hr
  have hst := run_storeCells_at P g off T' cs 0 cur.toArray w hB (by simpa using hfit) h1
  simp only [Nat.add_zero] at hst
  have hrun : (Builtin.copy_ #[t, u] o.type #[.slice (some ⟨g, off, none⟩) dLen dCap, .slice A sLen sCap]).run P w = .ok (goInt (Nat.min sLen dLen : Nat)) (w.setRow g (cur.take off ++ cs ++ cur.drop (off + cs.length)).toArray) := by
    simp only [Nat.min_def] at hf hn ⊢
    simp [Builtin.copy_, run_underlying ht, Builtin.lenOf, hs, Nat.min_def, hf, hst]
  have hex : (execOp (ev n E) o).run P w = .ok (.value (goInt (Nat.min sLen dLen : Nat))) (w.setRow g (cur.take off ++ cs ++ cur.drop (off + cs.length)).toArray) := by
    unfold execOp
    simp only [ho, resolve, invoke, builtin, Sem.run_bind, Sem.run_pure, Result.andThen_ok, List.map_toArray, List.map_cons, List.map_nil, hx, hy, hrun]
  rw [hex]
  refine ⟨⟨hw0.os, hw0.tape, hw0.output⟩, hk _ ?_ ⟨by simp, fun b _ hm => ?_⟩⟩
  · exact setRow_heap w g cur.toArray _ T' _ hB
  · exact setRow_other w g b _ (by simpa using hm)
/-- append(s, make(.., k)..) without room. -/
theorem stepAppZ {α : Type} {c : El α} {zv : Value} {bytes : Nat} {A : Option Addr} {sLen sCap k : Nat} {kq kn : IntKind} {olds : List Value} {zk : Int} (ho : o.op = .call { callee := .builtin .append, args := #[x, y], argTypes := #[t, tn] }) (ht : P.underlying t = some (.slice e)) (htn : P.underlying tn = some (.int kn))
    (hi : Elem P e zv c.sz bytes) (hzs : zv.cells.size = c.sz) (hb : bytes ≤ 4096) (hx : ev n E x = .slice A sLen sCap) (hy : ev n E y = .int kq zk) (hzk : zk = (k : Int)) (hol : olds.length = sLen * c.sz) (hr : olds ≠ [] → ∃ a, A = some a ∧ ∀ j v, olds[j]? = some v → cellH H (a.add j) = some v)
    (h0 : 0 < k) (hg : sCap < sLen + k) (hl : sLen + k ≤ 1073741824)
    (hk : ∀ g cap cur H', Ext H H' → H.size ≤ g → g < H'.size → Blk H' g cur e → cur.length = cap * c.sz → cur.take (sLen * c.sz) = olds → sLen + k ≤ cap → cap ≤ maxLen → K (.slice (some ⟨g, 0, none⟩) (sLen + k) cap) H') : Step P n o E H K := by
  intro w0 w hw0 hw
  subst hw
  subst hzk
  obtain ⟨i, hi, hz, hsz, hby⟩ := info_parts hi
  have hf := firstCells_run (P := P) w.drew i.size sLen A sLen sCap olds (by rw [hsz]; exact hol) hr
  have hbig : (sLen + k) * i.bytes ≤ 140737488355328 := by rw [hby]; exact Nat.le_trans (Nat.mul_le_mul hl hb) (by omega)
  have hrun := Lib.run_append_grow_zeros (P := P) w t tn o.type e i zv kq kn ht htn hi hz A sLen sCap olds hf k h0 (by rw [hsz]; exact c.pos) hg (by omega) (by rw [Nat.add_mul] at hbig; omega) (growslice_fits hg hbig)
  have hex : (execOp (ev n E) o).run P w = .ok (.value (.slice (some ⟨w.heap.size, 0, none⟩) (sLen + k) (grownCap w (sLen + k) sCap e)))
      (w.drew.alloc (.cells (olds.toArray ++ Builtin.zeroCells zv.cells k ++ Builtin.zeroCells zv.cells (grownCap w (sLen + k) sCap e - (sLen + k))) e)) := by
    unfold execOp
    simp only [ho, resolve, invoke, builtin, Sem.run_bind, Sem.run_pure, Result.andThen_ok, List.map_toArray, List.map_cons, List.map_nil, hx, hy, hrun]
  rw [hex]
  have hge := grownCap_ge w (sLen + k) sCap e
  have hzc : ∀ m, (Builtin.zeroCells zv.cells m).size = m * c.sz := fun m => by simp [Builtin.zeroCells, hzs]
  refine ⟨⟨hw0.os, hw0.tape, hw0.output⟩, hk w.heap.size (grownCap w (sLen + k) sCap e) (olds ++ (Builtin.zeroCells zv.cells k).toList ++ (Builtin.zeroCells zv.cells (grownCap w (sLen + k) sCap e - (sLen + k))).toList) _ (Ext.push _ _) (Nat.le_refl _) ?_ ?_ ?_ ?_ hge (grownCap_le_maxLen w _ _ e (by unfold maxLen; omega))⟩
  · show _ < (w.heap.push _).size; simp
  · unfold Blk
    show (w.heap.push _)[w.heap.size]? = _
    simp
  · simp only [List.length_append, Array.length_toList, hzc, hol]
    rw [← Nat.add_mul, ← Nat.add_mul]
    congr 1
    omega
  · rw [List.append_assoc, List.take_left' hol]
/-- A call of a function of the model's own that leaves all as it is. -/
theorem yCallX {f : FuncId} {as : List Operand} {ts : Array TypeId} {args : List Value} {v : Value} (ho : o.op = .call { callee := .value (.func f), args := as.toArray, argTypes := ts })
    (ha : evs n E as = args) (hf : ∀ w : World, w.heap = H → (callFunc f args.toArray).run P w = .ok (.value v) w) : Yld P n o E H v := by
  intro w hw
  subst ha
  unfold execOp
  simp only [ho, resolve, ev, Deferred.ofValue, invoke]
  have := hf w hw
  rw [evs_map] at this
  simp [this]
theorem shape_blk {w : World} {g : Nat} {cs : List Value} {T : TypeId} (h : Blk w.heap g cs T) : w.shape? g = some (T, cs.length) := by
  unfold Blk at h
  simp [World.shape?, h]
theorem frozen_blk {w : World} {g j : Nat} {cs : List Value} {T : TypeId} (h : Blk w.heap g cs T) : w.frozen? ⟨g, j, none⟩ = false := by
  unfold Blk at h
  simp [World.frozen?, h]
/-- Two slices in two blocks do not overlap. -/
theorem run_overlaps {f : FuncId} {fn : Func} {tR : TypeId} {sz : Nat} (hfn : P.funcs[f]? = some fn) (hname : (fn.name == "runtime.NumGoroutine") = false) (hb : fn.body.isNone = true) (hfn2 : Extern.findNext fn = none) (he : Extern.find fn = some (Extern.SlicesOverlaps.overlaps #[t, t] #[tR]))
    (ht : P.underlying t = some (.slice e)) (hz : ∀ w, (sizeOf e).run P w = .ok sz w) {a b : Nat} {i j la ca lb cb : Nat} {as bs : List Value} {Ta Tb : TypeId} (hA : Blk H a as Ta) (hB : Blk H b bs Tb) (hab : a ≠ b) (hbs : bs ≠ []) (w : World) (hw : w.heap = H) :
    (callFunc f #[.slice (some ⟨a, i, none⟩) la ca, .slice (some ⟨b, j, none⟩) lb cb]).run P w = .ok (.value (.bool false)) w := by
  subst hw
  rw [run_callFunc_extern hfn hname hb hfn2 he, Lib.run_overlaps_apart w t tR e ht sz hz ⟨a, i, none⟩ ⟨b, j, none⟩ la ca lb cb hab Ta Tb as.length bs.length (shape_blk hA) (shape_blk hB) (by
    intro h
    exact hbs (List.eq_nil_of_length_eq_zero h)) (frozen_blk hA) (frozen_blk hA)]
  rfl
end
section
variable {P : Program} {n : Nat} {o : Oper} {E : Env} {H : Heap} {x y : Operand} {t e T : TypeId}
theorem yCap {A : Option Addr} {m c : Nat} (ho : o.op = .call { callee := .builtin .cap, args := #[x], argTypes := #[t] }) (ht : P.underlying t = some (.slice e)) (hx : ev n E x = .slice A m c) : Yld P n o E H (.int .i64 (c : Int)) := fun w _ => by
  unfold execOp
  simp only [ho]
  simp [resolve, invoke, builtin, Builtin.cap_, hx, run_underlying ht, goInt]
/-- The address of an element of a slice whose place is known by an equation. -/
theorem yIdxP {A : Option Addr} {p : Addr} {k : IntKind} {len cap j s : Nat} {m : Int} (ho : o.op = .indexAddr T x y) (hT : P.underlying T = some (.slice e)) (hs : ∀ w, (sizeOf e).run P w = .ok s w) (hx : ev n E x = .slice A len cap) (hy : ev n E y = .int k m)
    (hA : A = some p) (hj : m = (j : Int)) (hl : j < len) : Yld P n o E H (.pointer (some (p.add (j * s)))) := by
  subst hA
  exact yIdx ho hT hs hx hy hj hl
theorem yIdxP1 {A : Option Addr} {p : Addr} {k : IntKind} {len cap j : Nat} {m : Int} (ho : o.op = .indexAddr T x y) (hT : P.underlying T = some (.slice e)) (hs : ∀ w, (sizeOf e).run P w = .ok 1 w) (hx : ev n E x = .slice A len cap) (hy : ev n E y = .int k m)
    (hA : A = some p) (hj : m = (j : Int)) (hl : j < len) : Yld P n o E H (.pointer (some (p.add j))) := by
  subst hA
  exact yIdx1 ho hT hs hx hy hj hl
theorem ySliceN {p : Addr} {len cap l s : Nat} {lo : Operand} {kl : IntKind} {zl : Int} (ho : o.op = .slice T x (some lo) none none) (hT : P.underlying T = some (.slice e)) (hs : ∀ w, (sizeOf e).run P w = .ok s w) (hx : ev n E x = .slice (some p) len cap)
    (hl : ev n E lo = .int kl zl) (el : zl = (l : Int)) (h1 : l ≤ len) (h2 : l ≠ cap) : Yld P n o E H (.slice (some (p.add (l * s))) (len - l) (cap - l)) := by
  have := ySliceL (H := H) ho hT hs hx hl el h1
  rwa [if_neg (Ne.symm h2)] at this
end
section
variable {P : Program} {n : Nat} {o : Oper} {E : Env} {H : Heap} {x y : Operand} {T yT : TypeId} {a b c : Int} {k : IntKind}
theorem yAddK (ho : o.op = .binOp .add T x y yT) (hx : ev n E x = .int k a) (hy : ev n E y = .int k b) (e : k.wrap (a + b) = c) : Yld P n o E H (.int k c) := yBin ho hx hy fun w => by
  subst e
  simp [binOp, Op.intArith]
theorem ySubK (ho : o.op = .binOp .sub T x y yT) (hx : ev n E x = .int k a) (hy : ev n E y = .int k b) (e : k.wrap (a - b) = c) : Yld P n o E H (.int k c) := yBin ho hx hy fun w => by
  subst e
  simp [binOp, Op.intArith]
end
/- STORES INTO ELEMENTS OF SEVERAL CELLS -/
section
variable {α : Type} (c : El α)
theorem El.flat_split (l : List α) {i : Nat} (hi : i < l.length) : l.flatMap c.F = (l.take i).flatMap c.F ++ c.F l[i] ++ (l.drop (i + 1)).flatMap c.F := by
  have e : l = l.take i ++ l[i] :: l.drop (i + 1) := by rw [List.getElem_cons_drop, List.take_append_drop]
  have : l.flatMap c.F = (l.take i ++ l[i] :: l.drop (i + 1)).flatMap c.F := by rw [← e]
  rw [this, List.flatMap_append, List.flatMap_cons, List.append_assoc]
theorem El.flat_set (l : List α) {i : Nat} (y : α) (hi : i < l.length) : (l.set i y).flatMap c.F = (l.flatMap c.F).take (i * c.sz) ++ c.F y ++ (l.flatMap c.F).drop (i * c.sz + c.sz) := by
  have h1 : ((l.take i).flatMap c.F).length = i * c.sz := by rw [c.flat_len, List.length_take, Nat.min_eq_left (by omega)]
  rw [List.set_eq_take_append_cons_drop, if_pos hi, List.flatMap_append, List.flatMap_cons, c.flat_split l hi]
  have e1 : ((l.take i).flatMap c.F ++ c.F l[i] ++ (l.drop (i + 1)).flatMap c.F).take (i * c.sz) = (l.take i).flatMap c.F := by rw [List.append_assoc, List.take_left' h1]
  have e2 : ((l.take i).flatMap c.F ++ c.F l[i] ++ (l.drop (i + 1)).flatMap c.F).drop (i * c.sz + c.sz) = (l.drop (i + 1)).flatMap c.F := List.drop_left' (by rw [List.length_append, h1, c.len])
  rw [e1, e2, List.append_assoc]
theorem El.flat_set1 (l : List α) {i j : Nat} (y : α) (v : Value) (hi : i < l.length) (hj : j < c.sz) (hF : c.F y = (c.F l[i]).set j v) : (l.set i y).flatMap c.F = (l.flatMap c.F).set (i * c.sz + j) v := by
  have h1 : ((l.take i).flatMap c.F).length = i * c.sz := by rw [c.flat_len, List.length_take, Nat.min_eq_left (by omega)]
  have h2 := c.len l[i]
  rw [List.set_eq_take_append_cons_drop, if_pos hi, List.flatMap_append, List.flatMap_cons, c.flat_split l hi, hF, List.append_assoc, List.set_append_right _ _ (by omega), h1, show i * c.sz + j - i * c.sz = j by omega, List.set_append_left _ _ (by omega)]
end
section
variable {P : Program} {α : Type} {c : El α} {n : Nat} {o : Oper} {E : Env} {H : Heap} {K : Value → Heap → Prop} {x y : Operand} {t e : TypeId}
/-- A store into one cell of an element of a slice of the call's own. -/
theorem stepStoreElt {T : TypeId} {base i j m cap : Nat} {l : List α} {p : Addr} {v : Value} (z : α) (hown : Own c e H base (.slice (some p) m cap) l) (ho : o.op = .store T x y) (hs1 : ∀ w, (sizeOf T).run P w = .ok 1 w) (hx : ev n E x = .pointer (some ((p.add (i * c.sz)).add j))) (hy : ev n E y = v) (hv : v.cells = #[v]) (hv1 : v.oneCell' = true)
    (hi : i < l.length) (hj : j < c.sz) (hF : c.F z = (c.F l[i]).set j v) (hk : ∀ H', Own c e H' base (.slice (some p) m cap) (l.set i z) → Keep [p.block] H H' → K undef H') : Step P n o E H K := by
  obtain ⟨A', c', hv', _, hr, hb⟩ := hown.form
  injection hv' with h1 h2 h3
  subst h1
  obtain ⟨g, rfl⟩ : ∃ g, p = ⟨g, 0, none⟩ := ⟨p.block, (hb p rfl).2.2⟩
  obtain ⟨cur, hB, hcl, htk, hbg, hn, hlc, hcm⟩ := hown.raw
  rw [add_of_add] at hx
  have hlt : i * c.sz + j < l.length * c.sz := by
    have : (i + 1) * c.sz ≤ l.length * c.sz := Nat.mul_le_mul_right _ hi
    rw [Nat.add_mul] at this
    omega
  have hle : l.length * c.sz ≤ cap * c.sz := Nat.mul_le_mul_right _ hlc
  refine stepStore ho hs1 hx hy hv hv1 hB (by omega) fun H' hB' hK' => hk H' ?_ hK'
  have := Own.ofRaw (c := c) (l := l.set i z) (base := base) (cap := cap) hB' (by rw [List.length_set]; exact hcl) (by
    rw [List.length_set, c.flat_set1 l z v hi hj hF, ← htk, List.take_set]) hbg (by rw [List.length_set]; exact hlc) hcm
  rw [List.length_set] at this
  rw [hn]
  exact this
/-- A store of a whole element. -/
theorem stepStoreEltS {T : TypeId} {base i m cap : Nat} {l : List α} {p : Addr} (z : α) (hown : Own c e H base (.slice (some p) m cap) l) (ho : o.op = .store T x y) (hs : (P.info? T).map (·.size) = some c.sz) (hx : ev n E x = .pointer (some (p.add (i * c.sz)))) (hy : ev n E y = .agg (c.F z).toArray)
    (hi : i < l.length) (hk : ∀ H', Own c e H' base (.slice (some p) m cap) (l.set i z) → Keep [p.block] H H' → K undef H') : Step P n o E H K := by
  obtain ⟨A', c', hv', _, hr, hb⟩ := hown.form
  injection hv' with h1 h2 h3
  subst h1
  obtain ⟨g, rfl⟩ : ∃ g, p = ⟨g, 0, none⟩ := ⟨p.block, (hb p rfl).2.2⟩
  obtain ⟨cur, hB, hcl, htk, hbg, hn, hlc, hcm⟩ := hown.raw
  have hlz := c.len z
  have hlt : i * c.sz + c.sz ≤ l.length * c.sz := by
    have : (i + 1) * c.sz ≤ l.length * c.sz := Nat.mul_le_mul_right _ hi
    rwa [Nat.add_mul, Nat.one_mul] at this
  have hle : l.length * c.sz ≤ cap * c.sz := Nat.mul_le_mul_right _ hlc
  refine stepStoreSeg ho (by rw [hs, hlz]) hx hy (List.all_eq_true.2 fun u hu => c.one z u hu) hB (by omega) fun H' hB' hK' => hk H' ?_ hK'
  have := Own.ofRaw (c := c) (l := l.set i z) (base := base) (cap := cap) hB' (by simp only [List.length_append, List.length_take, List.length_drop]; omega) (by
    rw [List.length_set, c.flat_set l z hi, ← htk]
    have e1 : (cur.take (l.length * c.sz)).take (i * c.sz) = cur.take (i * c.sz) := by rw [List.take_take, Nat.min_eq_left (by omega)]
    have e2 : (cur.take (l.length * c.sz)).drop (i * c.sz + c.sz) = (cur.drop (i * c.sz + c.sz)).take (l.length * c.sz - (i * c.sz + c.sz)) := by rw [List.drop_take]
    rw [e1, e2, hlz]
    have h1 : (cur.take (i * c.sz) ++ c.F z).length = i * c.sz + c.sz := by rw [List.length_append, List.length_take, hlz]; omega
    rw [List.take_append, h1, List.take_of_length_le (by rw [h1]; exact hlt)]) hbg (by rw [List.length_set]; exact hlc) hcm
  rw [List.length_set] at this
  rw [hn]
  exact this
theorem zeroCells_mem {zs : Array Value} {m : Nat} {u : Value} (h : u ∈ (Builtin.zeroCells zs m).toList) : u ∈ zs.toList := by
  unfold Builtin.zeroCells at h
  rw [Array.toList_map, List.mem_map] at h
  obtain ⟨i, hi, rfl⟩ := h
  have hi : i < m * zs.size := by simpa using hi
  have h0 : 0 < zs.size := by
    rcases Nat.eq_zero_or_pos zs.size with h | h
    · rw [h] at hi; omega
    · exact h
  have hm : i % zs.size < zs.size := Nat.mod_lt _ h0
  rw [getElem!_pos zs _ hm]
  exact Array.getElem_mem_toList hm
/-- clear of a part of a row. -/
theorem stepClear {g off m cp : Nat} {cur : List Value} {zv : Value} {sz bytes : Nat} {T' : TypeId} (ho : o.op = .call { callee := .builtin .clear, args := #[x], argTypes := #[t] }) (ht : P.underlying t = some (.slice e)) (hi : Elem P e zv sz bytes) (hzs : zv.cells.size = sz) (hz1 : ∀ u ∈ zv.cells.toList, u.oneCell' = true)
    (hx : ev n E x = .slice (some ((⟨g, 0, none⟩ : Addr).add off)) m cp) (hB : Blk H g cur T') (hfit : off + m * sz ≤ cur.length)
    (hk : ∀ H' zs, zs.length = m * sz → Blk H' g (cur.take off ++ zs ++ cur.drop (off + zs.length)) T' → Keep [g] H H' → K (.tuple #[]) H') : Step P n o E H K := by
  intro w0 w hw0 hw
  subst hw
  obtain ⟨i, hi, hz, hsz, hby⟩ := info_parts hi
  rw [add_head] at hx
  have hlen : (Builtin.zeroCells zv.cells m).toList.length = m * sz := by simp [Builtin.zeroCells, hzs]
  rcases m with _ | m
  · have hrun : (Builtin.clear_ #[t] o.type #[.slice (some ⟨g, off, none⟩) 0 cp]).run P w = .ok (.tuple #[]) w := by
      simp [Builtin.clear_, run_underlying ht]
    have hex : (execOp (ev n E) o).run P w = .ok (.value (.tuple #[])) w := by
      unfold execOp
      simp only [ho, resolve, invoke, builtin, Sem.run_bind, Sem.run_pure, Result.andThen_ok, List.map_toArray, List.map_cons, List.map_nil, hx, hrun]
    rw [hex]
    exact ⟨hw0, hk _ [] (by simp) (by simpa using hB) (Keep.refl _ _)⟩
  · have hst := run_storeCells_at P g off T' (Builtin.zeroCells zv.cells (m + 1)).toList 0 cur.toArray w hB (by simpa [hlen] using hfit) (fun u hu => hz1 u (zeroCells_mem hu))
    simp only [Nat.add_zero] at hst
    have hrun : (Builtin.clear_ #[t] o.type #[.slice (some ⟨g, off, none⟩) (m + 1) cp]).run P w = .ok (.tuple #[]) (w.setRow g (cur.take off ++ (Builtin.zeroCells zv.cells (m + 1)).toList ++ cur.drop (off + (Builtin.zeroCells zv.cells (m + 1)).toList.length)).toArray) := by
      have hzv : (zeroValue e).run P w = .ok zv w := by simp [zeroValue, typeInfo, hi, hz]
      simp only [Builtin.clear_]
      simp [run_underlying ht, hzv, hst]
    have hex : (execOp (ev n E) o).run P w = .ok (.value (.tuple #[])) (w.setRow g (cur.take off ++ (Builtin.zeroCells zv.cells (m + 1)).toList ++ cur.drop (off + (Builtin.zeroCells zv.cells (m + 1)).toList.length)).toArray) := by
      unfold execOp
      simp only [ho, resolve, invoke, builtin, Sem.run_bind, Sem.run_pure, Result.andThen_ok, List.map_toArray, List.map_cons, List.map_nil, hx, hrun]
    rw [hex]
    refine ⟨⟨hw0.os, hw0.tape, hw0.output⟩, hk _ _ hlen ?_ ⟨by simp, fun b _ hm => ?_⟩⟩
    · exact setRow_heap w g cur.toArray _ T' _ hB
    · exact setRow_other w g b _ (by simpa using hm)
end
/- TEXTS LAID AS BYTES -/
section
variable {P : Program} {n : Nat} {o : Oper} {E : Env} {H : Heap} {K : Value → Heap → Prop} {x y : Operand} {T e : TypeId}
/-- []byte of a text that is a constant: its row is marked. -/
theorem stepMark {g m c : Nat} {l : List UInt8} {T' : TypeId} (hB : Blk H g (l.flatMap eByte.F) T') (ho : o.op = .convert T T x) (hT : P.underlying T = some (.slice e)) (he : P.underlying e = some (.int .u8)) (hx : ev n E x = .slice (some ⟨g, 0, none⟩) m c)
    (hk : ∀ H', Rd eByte H' (some ⟨g, 0, none⟩) l → Keep [g] H H' → K (.slice (some ⟨g, 0, none⟩) m c) H') : Step P n o E H K := by
  intro w0 w hw0 hw
  subst hw
  have hsh := shape_blk hB
  have hrun : (convert T T (.slice (some ⟨g, 0, none⟩) m c)).run P w = .ok (.slice (some ⟨g, 0, none⟩) m c) (w.freeze ⟨g, (l.flatMap eByte.F).length, none⟩ 1) := by
    simp [convert, run_underlying hT, run_underlying he, markStringish, hsh, freeze, shape, Sem.run]
  have hex : (execOp (ev n E) o).run P w = .ok (.value (.slice (some ⟨g, 0, none⟩) m c)) (w.freeze ⟨g, (l.flatMap eByte.F).length, none⟩ 1) := by
    unfold execOp
    simp only [ho, hx]
    simp [hrun]
  rw [hex]
  have hg : (w.freeze ⟨g, (l.flatMap eByte.F).length, none⟩ 1).heap[g]? = some (.cells (l.flatMap eByte.F).toArray T' ((l.flatMap eByte.F).length, (l.flatMap eByte.F).length + 1)) := by
    unfold Blk at hB
    unfold World.freeze
    rw [if_neg (by decide)]
    show (w.heap.modify g _)[g]? = _
    rw [Array.getElem?_modify, if_pos rfl, hB]
    rfl
  have ho2 : ∀ b, b ≠ g → (w.freeze ⟨g, (l.flatMap eByte.F).length, none⟩ 1).heap[b]? = w.heap[b]? := fun b hb => by
    unfold World.freeze
    rw [if_neg (by decide)]
    simp [Array.getElem?_modify, Ne.symm hb]
  have hsz : (w.freeze ⟨g, (l.flatMap eByte.F).length, none⟩ 1).heap.size = w.heap.size := by
    unfold World.freeze
    rw [if_neg (by decide)]
    simp
  refine ⟨⟨hw0.os, hw0.tape, hw0.output⟩, hk _ (fun _ => ⟨_, rfl, fun j u hu => ?_⟩) ⟨by rw [hsz]; exact Nat.le_refl _, fun b _ hm => ho2 b (by simpa using hm)⟩⟩
  rw [add_head]
  have := cell_of_row (wd (w.freeze ⟨g, (l.flatMap eByte.F).length, none⟩ 1).heap) g j (l.flatMap eByte.F).toArray T' ((l.flatMap eByte.F).length, (l.flatMap eByte.F).length + 1) hg
  show (wd _).cell? _ = _
  rw [this]
  simpa using hu
end
section
variable {P : Program} {n : Nat} {o : Oper} {E : Env} {H : Heap} {x y : Operand} {T yT : TypeId} {a b c : Int} {k : IntKind}
theorem yQuoK (ho : o.op = .binOp .quo T x y yT) (hx : ev n E x = .int k a) (hy : ev n E y = .int k b) (h : 0 ≤ a ∧ 0 < b) (e : k.wrap (a / b) = c) : Yld P n o E H (.int k c) := yBin ho hx hy fun w => by
  subst e
  have hb : b ≠ 0 := by omega
  simp [binOp, Op.intDiv, hb, Int.tdiv_eq_ediv_of_nonneg h.1]
theorem yRemK (ho : o.op = .binOp .rem T x y yT) (hx : ev n E x = .int k a) (hy : ev n E y = .int k b) (h : 0 ≤ a ∧ 0 < b) (e : a % b = c) : Yld P n o E H (.int k c) := e ▸ yRem ho hx hy h
end
end Go.Proofs.Ytcfnmklbkhibgaa
