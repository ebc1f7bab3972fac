/- The walker, part 12: bits, checks of pointers, texts as bytes. Nothing of the program. -/
import Derived.Test.YtcfnmklbkhibgaaLK
import Derived.Lib.AppendStr
import Derived.Lib.ConvBytes
import Derived.Laws.Entries
namespace Go.Proofs.Ytcfnmklbkhibgaa
open Go.RowKit

section
variable {P : Program} {n : Nat} {o : Oper} {E : Env} {H : Heap} {x y : Operand} {T U yT : TypeId} {a b c : Int} {k k' : IntKind} {p : Addr}
theorem yNilCheck (ho : o.op = .nilCheck x) (hx : ev n E x = .pointer (some p)) : Yld P n o E H (.pointer (some p)) := fun w _ => by
  unfold execOp
  simp only [ho, hx]
  rfl
theorem yShlE (ho : o.op = .binOp .shl T x y yT) (hx : ev n E x = .int k a) (hy : ev n E y = .int k' b) (h : 0 ≤ b ∧ b ≤ (k.bits : Int)) (e : k.wrap (a * 2 ^ b.toNat) = c) : Yld P n o E H (.int k c) := yBin ho hx hy fun w => by
  subst e
  have hb : ¬ b < 0 := by omega
  have hm : min b.toNat k.bits = b.toNat := by omega
  have hr : (Op.shift .shl k a k' b).run P w = .ok (.int k (k.wrap (a * 2 ^ b.toNat))) w := by
    unfold Op.shift
    rw [if_neg hb]
    show Sem.run P (pure (Value.int k (k.wrap (a * 2 ^ (min b.toNat k.bits))))) w = _
    rw [hm]
    rfl
  simpa [binOp] using hr
theorem yShrE (ho : o.op = .binOp .shr T x y yT) (hx : ev n E x = .int k a) (hy : ev n E y = .int k' b) (h : 0 ≤ b ∧ b ≤ (k.bits : Int)) (e : a.fdiv (2 ^ b.toNat) = c) : Yld P n o E H (.int k c) := yBin ho hx hy fun w => by
  subst e
  have hb : ¬ b < 0 := by omega
  have hm : min b.toNat k.bits = b.toNat := by omega
  have hr : (Op.shift .shr k a k' b).run P w = .ok (.int k (a.fdiv (2 ^ b.toNat))) w := by
    unfold Op.shift
    rw [if_neg hb]
    show Sem.run P (pure (Value.int k (a.fdiv (2 ^ (min b.toNat k.bits))))) w = _
    rw [hm]
    rfl
  simpa [binOp] using hr
theorem yAndE (ho : o.op = .binOp .and T x y yT) (hx : ev n E x = .int k a) (hy : ev n E y = .int k b) (e : bits .and k a b = c) : Yld P n o E H (.int k c) := yBin ho hx hy fun w => by
  subst e
  simp only [binOp, ne_eq, not_true_eq_false, if_false]
  rfl
theorem yOrE (ho : o.op = .binOp .or T x y yT) (hx : ev n E x = .int k a) (hy : ev n E y = .int k b) (e : bits .or k a b = c) : Yld P n o E H (.int k c) := yBin ho hx hy fun w => by
  subst e
  simp only [binOp, ne_eq, not_true_eq_false, if_false]
  rfl
theorem yXorE (ho : o.op = .binOp .xor T x y yT) (hx : ev n E x = .int k a) (hy : ev n E y = .int k b) (e : bits .xor k a b = c) : Yld P n o E H (.int k c) := yBin ho hx hy fun w => by
  subst e
  simp only [binOp, ne_eq, not_true_eq_false, if_false]
  rfl
end

theorem strCells_eq (s : ByteArray) : Lib.strCells s = s.data.toList.flatMap eByte.F := by
  show _ = s.data.toList.flatMap (fun b => [Value.int .u8 (b.toNat : Int)])
  rw [← List.map_eq_flatMap]
  rfl
section
variable {P : Program}
/-- append of a text's bytes. -/
theorem run_appS (w : World) (base : Nat) (t u ty e : TypeId) (ht : P.underlying t = some (.slice e)) (hu : P.underlying u = some .string) (hi : Elem P e (.int .u8 0) 1 1) (v : Value) (l : List UInt8) (hown : Own eByte e w.heap base v l) (s : ByteArray)
    (hl : l.length + s.size ≤ 1073741824) (hbase : base ≤ w.heap.size) :
    ∃ v' w', (Builtin.append_ #[t, u] ty #[v, .string s]).run P w = .ok v' w' ∧ Same w w' ∧ Own eByte e w'.heap base v' (l ++ s.data.toList) ∧ Grew w.heap v w'.heap v' := by
  obtain ⟨i, hi, hz, hsz, hby⟩ := info_parts hi
  have hown' : w.ownsRow base e 1 v l.length (l.flatMap eByte.F) := hown
  obtain ⟨v', w', hrun, h2, h3, _⟩ := Lib.run_append_own_string (P := P) (w := w) base t u ty e i ht hu hi hz hsz hby v l.length (l.flatMap eByte.F) hown' s (by unfold maxLen; omega) (by omega) hbase
  refine ⟨v', w', hrun, ⟨h3.os, h3.tape, h3.output⟩, ?_, ⟨h3.size, fun b hb hm => h3.block b hb fun e => hm (by rw [Option.mem_toList]; exact e.symm)⟩, ?_⟩
  · show (wd w'.heap).ownsRow base e _ v' _ _
    rw [List.length_append, List.flatMap_append, ← strCells_eq]
    exact h2
  · rcases hown'.2 with ⟨rfl, h0⟩ | ⟨g, cap, cur, rfl, hbg, hg, hnc, hcm, hcs, htake⟩
    · intro g hg
      refine .inr ?_
      rcases Nat.lt_or_ge g w.heap.size with hlt | hge
      · exfalso
        by_cases hm : s.size = 0
        · have hf := Lib.run_firstCells_string (P := P) (w := w) 1 s
          rw [hm] at hf
          have hr : (Builtin.append_ #[t, u] ty #[.slice none 0 0, .string s]).run P w = .ok (.slice none 0 0) w := by
            simp [Builtin.append_, run_underlying ht, run_underlying hu, sizeOf, typeInfo, hi, hsz, Builtin.lenOf, hm, hf]
          rw [hr] at hrun
          injection hrun with h1 _
          subst h1
          cases hg
        · have hr := run_append_nil_string (P := P) w t u ty e i (.int .u8 0) ht hu hi hz s (by omega) (by omega) (by rw [hby]; omega)
          rw [hr] at hrun
          injection hrun with h1 _
          subst h1
          have : w.heap.size = g := by simpa [Value.ownBlock] using hg
          omega
      · exact hge
    · intro g' hg'
      by_cases hroom : l.length + s.size ≤ cap
      · have hcs' : cur.size = cap := by simpa using hcs
        have hr := Lib.run_append_room_string (P := P) (w := w) t u ty e i ht hu hi hsz g l.length cap cur hg s hroom (by omega)
        rw [hr] at hrun
        injection hrun with h1 _
        subst h1
        exact .inl (by simpa [Value.ownBlock] using hg')
      · have holds : ∀ j u, (l.flatMap eByte.F)[j]? = some u → w.cell? ((⟨g, 0, none⟩ : Addr).add j) = some u := World.ownsRow.cells hown' (g := g) rfl
        have hr := Lib.run_append_grow_string (P := P) (w := w) t u ty e i (.int .u8 0) ht hu hi hz ⟨g, 0, none⟩ l.length cap (l.flatMap eByte.F) (by rw [hsz, eByte.flat_len]; rfl) holds s (by omega) (by omega) (by rw [hby]; exact growslice_fits (by omega) (by omega))
        rw [hr] at hrun
        injection hrun with h1 _
        subst h1
        have : w.heap.size = g' := by simpa [Value.ownBlock] using hg'
        exact .inr (by omega)
variable {n : Nat} {o : Oper} {E : Env} {H : Heap} {K : Value → Heap → Prop} {x y : Operand} {t u e T U : TypeId}
theorem stepAppS {base : Nat} {v : Value} {l : List UInt8} {s : ByteArray} (hown : Own eByte e H base v l) (ho : o.op = .call { callee := .builtin .append, args := #[x, y], argTypes := #[t, u] }) (ht : P.underlying t = some (.slice e)) (hu : P.underlying u = some .string) (hi : Elem P e (.int .u8 0) 1 1)
    (hx : ev n E x = v) (hy : ev n E y = .string s) (hl : l.length + s.size ≤ 1073741824) (hbase : base ≤ H.size) (hk : ∀ v' H', Own eByte e H' base v' (l ++ s.data.toList) → Grew H v H' v' → K v' H') : Step P n o E H K := by
  intro w0 w hs hw
  subst hw
  obtain ⟨v', w', hrun, h1, h2, h3⟩ := run_appS (P := P) w base t u o.type e ht hu hi v l hown s hl hbase
  have : (execOp (ev n E) o).run P w = .ok (.value v') w' := by
    unfold execOp
    simp only [ho, resolve, invoke, builtin, Sem.run_bind, Sem.run_pure, Result.andThen_ok, List.map_toArray, List.map_cons, List.map_nil, hx, hy, hrun]
  rw [this]
  exact ⟨hs.trans h1, hk v' w'.heap h2 h3⟩
/-- A text's bytes, in a block of their own. -/
theorem stepStrBytes {s : ByteArray} {d : TypeDesc} (ho : o.op = .convert T U x) (hT : P.underlying T = some d) (hU : P.underlying U = some (.slice e)) (he : P.underlying e = some (.int .u8)) (hx : ev n E x = .string s)
    (hk : ∀ g c H', Ext H H' → H.size ≤ g → g < H'.size → Rd eByte H' (some ⟨g, 0, none⟩) s.data.toList → K (.slice (some ⟨g, 0, none⟩) s.size c) H') : Step P n o E H K := by
  intro w0 w hs hw
  subst hw
  have hrun := Lib.run_convert_string_bytes (P := P) w T U e s hT hU he
  have : (execOp (ev n E) o).run P w = .ok (.value (.slice (some ⟨w.heap.size, 0, none⟩) s.size (grownCap w s.size 0 e))) (Lib.bytesWorld w e s) := by
    unfold execOp
    simp only [ho, hx]
    simp [hrun]
  rw [this]
  refine ⟨⟨hs.os, hs.tape, hs.output⟩, hk _ _ _ ⟨by rw [Lib.bytesWorld_size]; omega, fun b hb => Lib.bytesWorld_at_old w e s b hb⟩ (Nat.le_refl _) (by rw [Lib.bytesWorld_size]; omega) ?_⟩
  intro _
  refine ⟨_, rfl, fun j v hv => ?_⟩
  have hj : j < s.data.toList.length := by
    have := (List.getElem?_eq_some_iff.1 hv).1
    rwa [eByte.flat_len, show eByte.sz = 1 from rfl, Nat.mul_one] at this
  rw [add_head]
  show (Lib.bytesWorld w e s).cell? _ = _
  rw [Lib.bytesWorld_cell w e s j (by simpa using hj)]
  rw [← hv, ← strCells_eq]
  show _ = (s.data.toList.map fun b : UInt8 => Value.int .u8 (b.toNat : Int))[j]?
  rw [List.getElem?_map, List.getElem?_eq_getElem hj, List.getD_eq_getElem?_getD, List.getElem?_eq_getElem hj]
  rfl
/-- .. as a block of which only its cells are known. -/
theorem nyqSB {s : ByteArray} {d : TypeDesc} (ho : o.op = .convert T U x) (hT : P.underlying T = some d) (hU : P.underlying U = some (.slice e)) (he : P.underlying e = some (.int .u8)) (hx : ev n E x = .string s) :
    Nyq P n o E fun g v ob => ∃ c, v = .slice (some ⟨g, 0, none⟩) s.size c ∧ ∀ H : Heap, H[g]? = some ob → Rd eByte H (some ⟨g, 0, none⟩) s.data.toList := fun w => by
  have hrun := Lib.run_convert_string_bytes (P := P) w T U e s hT hU he
  have hex : (execOp (ev n E) o).run P w = .ok (.value (.slice (some ⟨w.heap.size, 0, none⟩) s.size (grownCap w s.size 0 e))) (Lib.bytesWorld w e s) := by
    unfold execOp
    simp only [ho, hx]
    simp [hrun]
  have hlt : w.heap.size < (Lib.bytesWorld w e s).heap.size := by rw [Lib.bytesWorld_size]; omega
  refine ⟨_, (Lib.bytesWorld w e s).heap[w.heap.size], _, hex, ⟨rfl, rfl, rfl⟩, ?_, _, rfl, fun H hH => ?_⟩
  · apply Array.ext_getElem?
    intro i
    rw [Array.getElem?_push]
    by_cases hi : i = w.heap.size
    · subst hi
      rw [if_pos rfl, Array.getElem?_eq_getElem hlt]
    · rw [if_neg hi]
      rcases Nat.lt_or_ge i w.heap.size with h | h
      · exact Lib.bytesWorld_at_old w e s i h
      · rw [Array.getElem?_eq_none h, Array.getElem?_eq_none (by rw [Lib.bytesWorld_size]; omega)]
  · intro _
    refine ⟨_, rfl, fun j v hv => ?_⟩
    have hj : j < s.data.toList.length := by
      have := (List.getElem?_eq_some_iff.1 hv).1
      rwa [eByte.flat_len, show eByte.sz = 1 from rfl, Nat.mul_one] at this
    rw [add_head]
    have hc : cellH H ⟨w.heap.size, j, none⟩ = cellH (Lib.bytesWorld w e s).heap ⟨w.heap.size, j, none⟩ := cellH_of (by show H[w.heap.size]? = _; rw [hH, Array.getElem?_eq_getElem hlt])
    rw [hc]
    show (Lib.bytesWorld w e s).cell? _ = _
    rw [Lib.bytesWorld_cell w e s j (by simpa using hj)]
    rw [← hv, ← strCells_eq]
    show _ = (s.data.toList.map fun b : UInt8 => Value.int .u8 (b.toNat : Int))[j]?
    rw [List.getElem?_map, List.getElem?_eq_getElem hj, List.getD_eq_getElem?_getD, List.getElem?_eq_getElem hj]
    rfl
end
section
variable {P : Program} {n : Nat} {ops : List Oper} {kd : List Kd} {Ms : List Nat} {H0 : Heap} {M0 : List Nat} {K : Env → Heap → Prop} {l : List Nat} {E : Env} {Hc : Heap} {M : List Nat} {N : List NF} {i d : Nat} {o : Oper} {x : Operand} {T U e : TypeId}
theorem lexNQ {Q : Nat → Value → Obj → Prop} (ho : ops[i]? = some o) (hk : nthK kd i = .n) (hd : o.dst = some d) (hg : wantE ops n E o = true) (h : Nyq P n o E Q)
    (hl : ∀ g v ob, Q g v ob → H0.size ≤ g → (∀ x ∈ N, x.g ≠ g) → Lex P n ops kd Ms H0 M0 K l (upd E d v) Hc M (⟨i, g, ob⟩ :: N)) : Lex P n ops kd Ms H0 M0 K (i :: l) E Hc M N := by
  intro o' ho'
  obtain rfl : o = o' := Option.some.inj (ho.symm.trans ho')
  refine ⟨fun h' => (by rw [hg] at h'; cases h'), fun _ => ?_⟩
  simp only [hk, hd]
  exact ⟨Q, h, hl⟩
theorem lexSB {s : ByteArray} {t : TypeDesc} (ho : ops[i]? = some o) (hk : nthK kd i = .n) (hd : o.dst = some d) (hg : wantE ops n E o = true) (hop : o.op = .convert T U x) (hT : P.underlying T = some t) (hU : P.underlying U = some (.slice e)) (he : P.underlying e = some (.int .u8)) (hx : ev n E x = .string s)
    (hl : ∀ g c ob, H0.size ≤ g → (∀ x ∈ N, x.g ≠ g) → (∀ H : Heap, H[g]? = some ob → Rd eByte H (some ⟨g, 0, none⟩) s.data.toList) → Lex P n ops kd Ms H0 M0 K l (upd E d (.slice (some ⟨g, 0, none⟩) s.size c)) Hc M (⟨i, g, ob⟩ :: N)) : Lex P n ops kd Ms H0 M0 K (i :: l) E Hc M N :=
  lexNQ ho hk hd hg (nyqSB hop hT hU he hx) fun g v ob ⟨c, hv, hr⟩ h0 hn => by subst hv; exact hl g c ob h0 hn hr
end
end Go.Proofs.Ytcfnmklbkhibgaa
