/- Walks over package wire: the functions that append encodings. -/
import Derived.Test.YtmiijlmjpaiinaaRows
import Derived.Test.YtmiijlmjpaiinaaLib
import Derived.Test.YtmiijlmjpaiinaaWBits
import Derived.Lib.AppendStr
namespace Go.Proofs.Ytmiijlmjpaiinaa
open Go.RowKit

/-- A byte as a cell. -/
def U8 (b : UInt8) : Value := .int .u8 (b.toNat : Int)
/-- An int as a cell. -/
def I64 (n : Int) : Value := .int .i64 n
theorem byte_elem : Elem Try.prog 5 (.int .u8 0) 1 := by unfold Elem; kernel_rfl
theorem int_elem : Elem Try.prog 3 (.int .i64 0) 8 := by unfold Elem; kernel_rfl

theorem byteRd {w : World} {N : Nat} {x : UInt8} {y : Int} (hN : N = w.heap.size) (h : (x.toNat : Int) = y) : Rd U8 (w.alloc (.cells #[.int .u8 y] 5)) (some ⟨N, 0, none⟩) [x] := by
  subst h
  exact Rd.one_at 5 w N x hN
theorem orByte (u : Nat) : ((UInt8.ofNat (u % 128 + 128)).toNat : Int) = bits BinOp.or IntKind.u8 ((u : Int) % 256) 128 := by
  have h := u8_or_nat (u % 256) 128 (by omega) (by omega)
  rw [or_128 _ (by omega)] at h
  have e : ((u % 256 : Nat) : Int) = (u : Int) % 256 := by omega
  rw [← e]
  refine Eq.trans ?_ h.symm
  simp
  omega

/-- append of a string's bytes. -/
theorem run_appStr (w : World) (base : Nat) (t u ty : TypeId) (ht : Try.prog.underlying t = some (.slice 5)) (hu : Try.prog.underlying u = some .string) (v : Value) (l : List UInt8) (hown : Own 5 U8 w base v l) (s : ByteArray)
    (hl : l.length + s.size ≤ 1073741824) (hbase : base ≤ w.heap.size) :
    ∃ v' w', (Builtin.append_ #[t, u] ty #[v, .string s]).run Try.prog w = .ok v' w' ∧ Own 5 U8 w' base v' (l ++ s.data.toList) ∧ Grew w v w' v' := by
  obtain ⟨i, hi, hz, hsz, hby⟩ := info_parts byte_elem
  obtain ⟨v', w', hrun, h2, h3, _⟩ := Lib.run_append_own_string (P := Try.prog) (w := w) base t u ty 5 i ht hu hi hz hsz hby v l.length (l.map U8) hown s (by unfold maxLen; omega) (by omega) hbase
  refine ⟨v', w', hrun, ?_, h3, ?_⟩
  · have e : l.map U8 ++ Lib.strCells s = (l ++ s.data.toList).map U8 := by rw [List.map_append]; rfl
    have e2 : l.length + s.size = (l ++ s.data.toList).length := by rw [List.length_append]; rfl
    rw [e, e2] at h2
    exact h2
  · rcases hown.2 with ⟨rfl, h0⟩ | ⟨g, cap, cur, rfl, hbg, hg, hnc, hcm, hcs, htake⟩
    · rcases h2.2 with ⟨rfl, _⟩ | ⟨g', cap', cur', rfl, hb', hh', _⟩
      · exact .inl rfl
      · refine .inr fun g hg => ?_
        have hg' : g' = g := by simpa [Value.ownBlock] using hg
        subst hg'
        rcases Nat.lt_or_ge g' w.heap.size with hlt | hge
        · exfalso
          by_cases hm : s.size = 0
          · have hf := Lib.run_firstCells_string (P := Try.prog) (w := w) 1 s
            rw [hm] at hf
            have hr : (Builtin.append_ #[t, u] ty #[.slice none 0 0, .string s]).run Try.prog w = .ok (.slice none 0 0) w := by
              simp [Builtin.append_, run_underlying ht, run_underlying hu, sizeOf, typeInfo, hi, hsz, Builtin.lenOf, hm, hf]
            rw [hr] at hrun
            injection hrun with h1 _
            cases h1
          · have hr := run_append_nil_string (P := Try.prog) w t u ty 5 i (.int .u8 0) ht hu hi hz s (by omega) (by omega) (by rw [hby]; omega)
            rw [hr] at hrun
            injection hrun with h1 _
            injection h1 with h1
            injection h1 with h1
            injection h1 with h1
            omega
        · exact hge
    · by_cases hroom : l.length + s.size ≤ cap
      · have hcs' : cur.size = cap := by simpa using hcs
        have hr := Lib.run_append_room_string (P := Try.prog) (w := w) t u ty 5 i ht hu hi hsz g l.length cap cur hg s hroom (by omega)
        rw [hr] at hrun
        injection hrun with h1 _
        subst h1
        exact .inl rfl
      · have holds : ∀ j u, (l.map U8)[j]? = some u → w.cell? ((⟨g, 0, none⟩ : Addr).add j) = some u := World.ownsRow.cells hown (g := g) rfl
        have hr := Lib.run_append_grow_string (P := Try.prog) (w := w) t u ty 5 i (.int .u8 0) ht hu hi hz ⟨g, 0, none⟩ l.length cap (l.map U8) (by rw [hsz]; simp) holds s (by omega) (by omega) (by rw [hby]; exact growslice_fits (by omega) (by omega))
        rw [hr] at hrun
        injection hrun with h1 _
        subst h1
        refine .inr fun g' hg' => ?_
        have : w.heap.size = g' := by simpa [Value.ownBlock] using hg'
        omega
theorem appStr {ops : Array Oper} {rest : List Oper} {o : Oper} {a : Act} {Q : Exit → Act → World → Prop} {w : World} (hgd : o.guard = none) (sl x : Operand) (t u : TypeId)
    (ho : o.op = .call { callee := .builtin .append, args := #[sl, x], argTypes := #[t, u] }) (ht : Try.prog.underlying t = some (.slice 5)) (hu : Try.prog.underlying u = some .string)
    (base : Nat) (v : Value) (l : List UInt8) (hs : a.eval sl = v) (hown : Own 5 U8 w base v l) (s : ByteArray) (hx : a.eval x = .string s) (hl : l.length + s.size ≤ 1073741824) (hbase : base ≤ w.heap.size)
    (h : ∀ v' w', Own 5 U8 w' base v' (l ++ s.data.toList) → Grew w v w' v' → wpList Try.prog ops Q rest (a.put o.dst v') w') : wpList Try.prog ops Q (o :: rest) a w := by
  refine wpList_plain hgd fun K hK => ?_
  obtain ⟨v', w', hr, h2, h3⟩ := run_appStr w base t u o.type ht hu v l hown s hl hbase
  unfold Oper.wp execOp
  simp only [ho, resolve, invoke, builtin, Sem.run_bind, Sem.run_pure, Result.andThen_ok, List.map_toArray, List.map_cons, List.map_nil, hs, hx, hr]
  exact hK _ _ (h v' w' h2 h3)

/-- An append-like call: v' is v and more. -/
def RetApp (base : Nat) (w : World) (v : Value) (l : List UInt8) (e : Ending) (w' : World) : Prop :=
  ∃ v', e = .returned v' ∧ Own 5 U8 w' base v' l ∧ Grew w v w' v'

set_option maxHeartbeats 400000 in
set_option maxRecDepth 100000 in
theorem wInt_c (v : Value) (n : Int) (base : Nat) (l : List UInt8) (w : World) (hn : P64 n) (hb : base ≤ w.heap.size) (hv : Own 5 U8 w base v l) (hl : l.length ≤ 500000000) :
    Calls Try.prog 11 #[v, .int .i64 n] w (RetApp base w v (l ++ encI n)) := by
  go_enter Try.func11, Try.ntmps11
  go_wp2
  rw [zig_bits hn]
  have hu0 := hide (zig_lt hn.1 hn.2)
  have HU : Hid (encI n = encU (zig n)) := rfl
  have HUL : Hid ((encI n).length ≤ 10) := encI_length hn
  generalize zig n = z0 at *
  go_loopw [0, 5] (fun v' x wr => ∃ (u : Nat) (pre : List UInt8), Hid (u < 18446744073709551616) ∧ x = .int .u64 u ∧ pre.length ≤ 10 ∧ Own 5 U8 wr base v' (l ++ pre) ∧ Grew w v wr v' ∧ Hid (encI n = pre ++ encU u)) (fun _ x _ => (intOf x).toNat)
  case atStart => exact ⟨z0, [], hu0, rfl, by simp, by rw [List.append_nil]; exact hv, Grew.refl w v, by show _ = _; rw [HU.out]; rfl⟩
  case round =>
    clear hv hn
    obtain ⟨u, pre, hu, rfl, hpl, hown, hg, HE⟩ := hrel
    have hlen : (l ++ pre).length ≤ 500000100 := by rw [List.length_append]; omega
    have hbw : base ≤ wr.heap.size := Nat.le_trans hb hg.1.size
    by_cases hlt : u < 128
    · have HB : Hid (((UInt8.ofNat u).toNat : Int) = u) := by show _ = _; simp; omega
      have HEu : Hid (encI n = pre ++ [UInt8.ofNat u]) := by show _ = _; rw [HE.out, encU_small hlt]
      go_wp2_with (at_builtin; go_loud (refine app rfl (.tmp 23) (.tmp 26) _ rfl 5 (.int .u8 0) 1 Try.underlying29 byte_elem rfl (by omega) (fun _ => rfl) base u0 (l ++ pre) rfl (hown.alloc _) _ 1 1 [UInt8.ofNat u] rfl rfl (byteRd (by simp) HB.out) (by simp only [List.length_cons, List.length_nil]; omega) (by simp; omega) ?_); intro v1 w1 hown1 hg1)
      go_ret
      exact ⟨v1, rfl, by rw [HEu.out, ← List.append_assoc]; exact hown1, (hg.mk_ext ((Ext.refl _).alloc _)).trans hg1⟩
    · have HB : Hid (((UInt8.ofNat (u % 128 + 128)).toNat : Int) = _) := orByte u
      have HEu : Hid (encI n = (pre ++ [UInt8.ofNat (u % 128 + 128)]) ++ encU (u / 128)) := by show _ = _; rw [HE.out, encU_big (by omega)]; simp
      have HL : Hid (pre.length + 1 ≤ 10) := by
        have h := HUL.out
        rw [HEu.out, List.length_append, List.length_append] at h
        show _ ≤ _
        simp at h
        omega
      go_wp2_with (at_builtin; go_loud (refine app rfl (.tmp 15) (.tmp 19) _ rfl 5 (.int .u8 0) 1 Try.underlying29 byte_elem rfl (by omega) (fun _ => rfl) base u0 (l ++ pre) rfl (hown.alloc _) _ 1 1 [UInt8.ofNat (u % 128 + 128)] rfl rfl (byteRd (by simp) HB.out) (by simp only [List.length_cons, List.length_nil]; omega) (by simp; omega) ?_); intro v1 w1 hown1 hg1)
      go_roundw
      case rel => exact ⟨u / 128, pre ++ [UInt8.ofNat (u % 128 + 128)], Nat.lt_of_le_of_lt (Nat.div_le_self _ _) hu.out, by simp, by simpa using HL.out, by rw [← List.append_assoc]; exact hown1, (hg.mk_ext ((Ext.refl _).alloc _)).trans hg1, HEu⟩
      case measure => simp [intOf]; omega

theorem P64_len {n : Nat} (h : n ≤ 1000000) : P64 (n : Int) := ⟨by omega, by omega⟩

theorem wBool_c (v : Value) (b : Bool) (base : Nat) (l : List UInt8) (w : World) (hb : base ≤ w.heap.size) (hv : Own 5 U8 w base v l) (hl : l.length ≤ 500000000) :
    Calls Try.prog 18 #[v, .bool b] w (RetApp base w v (l ++ encB b)) := by
  cases b
  · go_enter Try.func18, Try.ntmps18
    go_wp2_with (at_builtin; go_loud (refine app rfl (.tmp 9) (.tmp 10) _ rfl 5 (.int .u8 0) 1 Try.underlying29 byte_elem rfl (by omega) (fun _ => rfl) base v l rfl (hv.alloc _) _ 1 1 [0] rfl rfl (byteRd (by simp) rfl) (by simp; omega) (by simp; omega) ?_); intro v1 w1 hown1 hg1)
    go_ret
    exact ⟨v1, rfl, hown1, Grew.of_ext ((Ext.refl _).alloc _) hg1⟩
  · go_enter Try.func18, Try.ntmps18
    go_wp2_with (at_builtin; go_loud (refine app rfl (.tmp 6) (.tmp 7) _ rfl 5 (.int .u8 0) 1 Try.underlying29 byte_elem rfl (by omega) (fun _ => rfl) base v l rfl (hv.alloc _) _ 1 1 [1] rfl rfl (byteRd (by simp) rfl) (by simp; omega) (by simp; omega) ?_); intro v1 w1 hown1 hg1)
    go_ret
    exact ⟨v1, rfl, hown1, Grew.of_ext ((Ext.refl _).alloc _) hg1⟩

theorem wText_c (v : Value) (s : ByteArray) (base : Nat) (l : List UInt8) (w : World) (hs : s.size ≤ 1000000) (hb : base ≤ w.heap.size) (hv : Own 5 U8 w base v l) (hl : l.length ≤ 500000000) :
    Calls Try.prog 12 #[v, .string s] w (RetApp base w v (l ++ encBytes s.data.toList)) := by
  have hp := hide (P64_len hs)
  have HEL := hide (encI_length hp.out)
  go_enter Try.func12, Try.ntmps12
  go_wp2_with fail
  refine (wInt_c v _ base l w hp.out hb hv hl).mono ?_
  rintro e w1 ⟨v1, rfl, hown1, hg1⟩
  have hb1 : base ≤ w1.heap.size := Nat.le_trans hb hg1.1.size
  have hl1 := hide (show (l ++ encI (s.size : Int)).length + s.size ≤ 1073741824 by have := HEL.out; rw [List.length_append]; omega)
  go_wp2_with (at_builtin; go_loud (refine appStr rfl (.tmp 8) (.tmp 9) _ _ rfl Try.underlying29 Try.underlying9 base v1 _ rfl hown1 s rfl hl1.out hb1 ?_); intro v2 w2 hown2 hg2)
  go_ret
  exact ⟨v2, rfl, by rw [encBytes, ← List.append_assoc]; exact hown2, hg1.trans hg2⟩

theorem wBytes_c (v : Value) (A : Option Addr) (c : Nat) (x : List UInt8) (base : Nat) (l : List UInt8) (w : World) (hs : x.length ≤ 1000000) (hb : base ≤ w.heap.size) (hv : Own 5 U8 w base v l) (hl : l.length ≤ 500000000)
    (hx : Rd U8 w A x) (hA : ∀ ad, A = some ad → v.ownBlock ≠ some ad.block) :
    Calls Try.prog 19 #[v, .slice A x.length c] w (RetApp base w v (l ++ encBytes x)) := by
  have hp := hide (P64_len hs)
  have HEL := hide (encI_length hp.out)
  go_enter Try.func19, Try.ntmps19
  go_wp2_with fail
  refine (wInt_c v _ base l w hp.out hb hv hl).mono ?_
  rintro e w1 ⟨v1, rfl, hown1, hg1⟩
  have hb1 : base ≤ w1.heap.size := Nat.le_trans hb hg1.1.size
  have hl1 := hide (show (l ++ encI (x.length : Int)).length + x.length ≤ 1073741824 by have := HEL.out; rw [List.length_append]; omega)
  have hx1 := hx.grown hg1.1 hA
  go_wp2_with (at_builtin; go_loud (refine app rfl (.tmp 8) (.tmp 9) _ rfl 5 (.int .u8 0) 1 Try.underlying29 byte_elem rfl (by omega) (fun _ => rfl) base v1 _ rfl hown1 A _ c x rfl rfl hx1 hl1.out hb1 ?_); intro v2 w2 hown2 hg2)
  go_ret
  exact ⟨v2, rfl, by rw [encBytes, ← List.append_assoc]; exact hown2, hg1.trans hg2⟩

theorem flatMap_succ {α β : Type} {l : List α} {k : Nat} {x : α} (f : α → List β) (h : l[k]? = some x) : (l.take (k + 1)).flatMap f = (l.take k).flatMap f ++ f x := by
  rw [List.take_add_one, h, List.flatMap_append]
  simp
theorem flatMap_le {α β : Type} (f : α → List β) (c : Nat) : ∀ (l : List α), (∀ x ∈ l, (f x).length ≤ c) → (l.flatMap f).length ≤ c * l.length
  | [], _ => by simp
  | x :: l, h => by
    have h1 := h x (by simp)
    have h2 := flatMap_le f c l fun y hy => h y (by simp [hy])
    simp only [List.flatMap_cons, List.length_append, List.length_cons]
    rw [Nat.mul_add, Nat.mul_one]
    omega

set_option maxHeartbeats 400000 in
theorem wInts_c (v : Value) (A : Option Addr) (c : Nat) (xs : List Int) (base : Nat) (l : List UInt8) (w : World) (hn : xs.length ≤ 1000000) (hp : ∀ x ∈ xs, P64 x) (hb : base ≤ w.heap.size) (hv : Own 5 U8 w base v l) (hl : l.length ≤ 400000000)
    (hx : Rd I64 w A xs) (hA : ∀ ad, A = some ad → v.ownBlock ≠ some ad.block) :
    Calls Try.prog 17 #[v, .slice A xs.length c] w (RetApp base w v (l ++ encInts xs)) := by
  have hp0 := hide (P64_len hn)
  have HP := hide hp
  have HA := hide hA
  have HEL := hide (encI_length hp0.out)
  have HPL : Hid (∀ k, ((xs.take k).flatMap encI).length ≤ 10 * xs.length) := fun k =>
    Nat.le_trans (flatMap_le encI 10 _ fun x hx => encI_length (hp x (List.mem_of_mem_take hx))) (Nat.mul_le_mul_left _ (List.length_take_le' _ _))
  clear hp hA
  go_enter Try.func17, Try.ntmps17
  go_wp2_with fail
  refine (wInt_c v _ base l w hp0.out hb hv (by omega)).mono ?_
  rintro e w1 ⟨v1, rfl, hown1, hg1⟩
  go_wp2
  go_loopw [0, 13] (fun v' i wr => ∃ k : Nat, k ≤ xs.length ∧ i = .int .i64 k ∧ Own 5 U8 wr base v' (l ++ encI xs.length ++ (xs.take k).flatMap encI) ∧ Grew w v wr v') (fun _ i _ => xs.length - (intOf i).toNat)
  case atStart => exact ⟨0, Nat.zero_le _, rfl, by simpa using hown1, hg1⟩
  case round =>
    clear hown1 hg1
    obtain ⟨k, hk, rfl, hown, hg⟩ := hrel
    by_cases hlt : k < xs.length
    · obtain ⟨a, x, rfl, -, e1, h1, -⟩ := (hx.grown hg.1 HA.out).at_ hlt
      have h1 : wr.cell? (a.add k) = some (.int .i64 x) := h1
      have HX := hide (HP.out x (List.mem_of_getElem? e1))
      have HF := hide (flatMap_succ encI e1)
      have HL := hide (show (l ++ encI (xs.length : Int) ++ (xs.take k).flatMap encI).length ≤ 500000000 by
        have h1 := HPL.out k
        have h2 := HEL.out
        rw [List.length_append, List.length_append]; omega)
      clear e1 hx
      have HO := hide hown
      have HG := hide hg
      clear hown hg
      go_wp2_with fail
      refine (wInt_c u0 x base _ wr HX.out (Nat.le_trans hb HG.out.1.size) HO.out HL.out).mono ?_
      rintro e w2 ⟨v2, rfl, hown2, hg2⟩
      go_wp2
      go_roundw
      case rel => exact ⟨k + 1, by omega, by go_num, by rw [HF.out, ← List.append_assoc]; exact hown2, HG.out.trans hg2⟩
      case measure => simp [intOf]; omega
    · have HO := hide hown
      clear hown
      go_wp2
      go_ret
      refine ⟨u0, rfl, ?_, hg⟩
      have h := HO.out
      rw [List.take_of_length_le (by omega)] at h
      rw [encInts, ← List.append_assoc]
      exact h

end Go.Proofs.Ytmiijlmjpaiinaa
