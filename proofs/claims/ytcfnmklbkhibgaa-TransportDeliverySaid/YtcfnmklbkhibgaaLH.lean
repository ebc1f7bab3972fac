/- The walker, part 8: a law's arguments, opened; from a law's walk to its row. -/
import Derived.Test.YtcfnmklbkhibgaaP
import Derived.ProofKit
import Derived.OpenShut
import Derived.ShutString
import Derived.ChangeOld
import Derived.ChangeArms
import Derived.Below
import Derived.Deep.Slices
namespace Go.Proofs.Ytcfnmklbkhibgaa
open Go.ChangeShapes Go.WideShapes Go.ChangeAt Go.RowKit Go.Deep

theorem Frame.own : ownKnob Try.prog.godebug = none := by kernel_rfl
theorem Frame.laidOut : laidOutB Try.prog = true := by kernel_rfl

theorem trodAll_below {H : Type} {enc : TypeId × Value → H} {P : Program} (hl : laidOutB P = true) {W W' : World} (hb : Below W.heap.size W W') :
    ∀ (ts : List TypeId) (vs : List Value) (ds : List (DataW H)) (ps : List MemPlace), (∀ t ∈ ts, P.readableRec t = true ∧ t < P.types.size) →
      DataW.TrodAll enc P W 0 (fun _ => true) true ts vs ds ps → (∀ x ∈ ps, x.block < W.heap.size) → DataW.TrodAll enc P W' 0 (fun b => decide (b < W.heap.size)) true ts vs ds ps
  | [], vs, ds, ps, _, h, _ => by
    obtain ⟨rfl, rfl, rfl⟩ := trodAll_nil h
    exact trodAll_mk0
  | t :: ts, vs, ds, ps, hr, h, hlt => by
    obtain ⟨v, vs', d, ds', p, q, rfl, rfl, rfl, h1, h2⟩ := trodAll_cons h
    exact trodAll_cons_mk (Below.trod hl (hr t (by simp)).1 (hr t (by simp)).2 h1 hb fun x hx => hlt x (by simp [hx]))
      (trodAll_below hl hb ts vs' ds' q (fun t' ht' => hr t' (by simp [ht'])) h2 fun x hx => hlt x (by simp [hx]))

theorem trodAll_length {H : Type} {enc : TypeId × Value → H} {P : Program} {W : World} {b : Nat} {sp : Nat → Bool} {hd : Bool} :
    ∀ (ts : List TypeId) (vs : List Value) (ds : List (DataW H)) (ps : List MemPlace), DataW.TrodAll enc P W b sp hd ts vs ds ps → ds.length = ts.length
  | [], vs, ds, ps, h => by
    obtain ⟨rfl, rfl, rfl⟩ := trodAll_nil h
    rfl
  | t :: ts, vs, ds, ps, h => by
    obtain ⟨v, vs', d, ds', p, q, rfl, rfl, rfl, h1, h2⟩ := trodAll_cons h
    simp [trodAll_length ts vs' ds' q h2]

set_option maxRecDepth 100000 in
/-- A law's row, from its walk. -/
theorem law_lifted {os : Os} (started : os.Started) {H : Type} {enc : TypeId × Value → H} {f : FuncId} {fn : Func} (s : ChangeSpec) (hvars : s.vars = [])
    (noInit : Try.prog.inits.idxOf? f = none) (hfn : Try.prog.funcs[f]? = some fn) (hres : fn.resultTypes = #[4])
    (hspec : ∀ ds : List (DataW H), ds.length = fn.params.toList.length → s.fn H ds = { results := [.lit (.bool true)], args := ds })
    (hread : ∀ t ∈ fn.params.toList, Try.prog.readableRec t = true ∧ t < Try.prog.types.size)
    (witness : ∃ (w : World) (tape : Tape) (i : Input), w.os = os ∧ (w.forCall tape i).Shaped Try.prog ∧ i.vars = [] ∧ Input.okWide Try.prog (w.forCall tape i) .any w.heap.size f i ∧
      s.pre6 enc Try.prog fn [] false (w.forCall tape i).memory i.args ∧ Assume.holds {} Try.prog (lone (Frame.enter Try.prog f i.args .normal) [] (w.forCall tape i)))
    (walk : ∀ (W : World) (base : Nat) (args : Array Value) (ds : List (DataW H)) (p : List MemPlace),
      (∀ (j : Nat) t v, fn.params[j]? = some t → args[j]? = some v → Value.okWide Try.prog W .any base t v) →
      DataW.TrodAll enc Try.prog W 0 (fun _ => true) true fn.params.toList args.toList ds p →
      CallsH Try.prog f args.toList W.heap fun v H' => v = .bool true ∧ Ext W.heap H') :
    ReturnsInHanded {} Try.checked os f .any (s.pre6 enc Try.prog fn [] false) (s.post enc Try.prog fn false true false false) := by
  refine returnsInHanded_of_change (C := Try.checked) Frame.own started noInit hfn witness ?_
  intro W base args ds gs before hval0 hW _ _
  have hlt : ∀ x ∈ before, x.block < W.heap.size := fun x hx => hW.lt x hx
  have hW' := hW
  obtain ⟨p, q, hA, hV, rfl, hfz, hnd⟩ := hW
  rw [hvars] at hV
  obtain ⟨rfl, rfl⟩ := trodVars_none hV
  rw [List.append_nil] at hlt hW'
  have hds := trodAll_length _ _ _ _ hA
  have hcall := walk W base args ds p hval0 hA W rfl
  simp only [Array.toArray_toList] at hcall
  refine hcall.mono fun e W' ⟨v, he, hsame, hv, hext⟩ => ?_
  have bel : Below W.heap.size W W' := ⟨hsame.os, hsame.tape, hsame.output, hext.size, fun k hk => hext.at_ k hk⟩
  subst he; subst hv
  refine ⟨_, rfl, ds, [], p, [], p, [], hW', ?_, ?_, ?_, bel.frame _, fun h => by cases h⟩
  · rw [List.append_nil, hspec ds hds, hres]
    exact trodAll_mk1 (shut_bool Try.underlying4 _)
  · rw [List.append_nil, hspec ds hds]
    exact trodAll_below Frame.laidOut bel _ _ _ _ hread hA hlt
  · rw [List.append_nil, hspec ds hds, hvars]
    rfl

/- ARGUMENTS -/
theorem flatMap_one {α β : Type} (f : α → β) : ∀ l : List α, l.flatMap (fun x => [f x]) = l.map f
  | [] => rfl
  | x :: l => by simp [flatMap_one f l]
/-- What is read as type t reads as F a, Pr a. -/
def Opn (P : Program) (W : World) (t sz : Nat) {α : Type} (F : α → List Value) (Pr : α → Prop) : Prop :=
  P.cellsOf t = sz ∧ ∀ (H : Type) (enc : TypeId × Value → H) (fuel : Nat) (cs : List Value) (x : DataW H × List MemPlace), DataW.trod enc P W 0 (fun _ => true) true fuel t cs = some x → ∃ a, cs = F a ∧ Pr a
section
variable {P : Program} {W : World} {t e : TypeId} {α β : Type}
theorem opn_int (ht : P.underlying t = some (.int .i64)) (hc : P.cellsOf t = 1) : Opn P W t 1 (fun n : Int => [.int .i64 n]) In64 :=
  ⟨hc, fun H enc fuel cs x h => by obtain ⟨n, rfl, _, hw⟩ := DataW.trod_int ht h; exact ⟨n, rfl, bounds_i64 hw⟩⟩
theorem opn_u8i (ht : P.underlying t = some (.int .u8)) (hc : P.cellsOf t = 1) : Opn P W t 1 (fun n : Int => [.int .u8 n]) (fun n => 0 ≤ n ∧ n ≤ 255) :=
  ⟨hc, fun H enc fuel cs x h => by obtain ⟨n, rfl, _, hw⟩ := DataW.trod_int ht h; exact ⟨n, rfl, bounds_u8 hw⟩⟩
theorem opn_u16 (ht : P.underlying t = some (.int .u16)) (hc : P.cellsOf t = 1) : Opn P W t 1 (fun n : Int => [.int .u16 n]) (fun n => 0 ≤ n ∧ n ≤ 65535) :=
  ⟨hc, fun H enc fuel cs x h => by obtain ⟨n, rfl, _, hw⟩ := DataW.trod_int ht h; exact ⟨n, rfl, bounds_u16 hw⟩⟩
theorem opn_i8 (ht : P.underlying t = some (.int .i8)) (hc : P.cellsOf t = 1) : Opn P W t 1 (fun n : Int => [.int .i8 n]) (fun n => -128 ≤ n ∧ n ≤ 127) :=
  ⟨hc, fun H enc fuel cs x h => by obtain ⟨n, rfl, _, hw⟩ := DataW.trod_int ht h; exact ⟨n, rfl, bounds_i8 hw⟩⟩
theorem opn_byte (ht : P.underlying t = some (.int .u8)) (hc : P.cellsOf t = 1) : Opn P W t 1 eByte.F (fun _ => True) :=
  ⟨hc, fun H enc fuel cs x h => by
    obtain ⟨n, rfl, _, hw⟩ := DataW.trod_int ht h
    have hb := bounds_u8 hw
    refine ⟨UInt8.ofNat n.toNat, ?_, trivial⟩
    show [Value.int .u8 n] = [Value.int .u8 _]
    congr 2
    simp
    omega⟩
theorem opn_bool (ht : P.underlying t = some .bool) (hc : P.cellsOf t = 1) : Opn P W t 1 (fun b : Bool => [.bool b]) (fun _ => True) :=
  ⟨hc, fun H enc fuel cs x h => by obtain ⟨n, rfl, _⟩ := DataW.trod_bool ht h; exact ⟨n, rfl, trivial⟩⟩
theorem opn_str (ht : P.underlying t = some .string) (hc : P.cellsOf t = 1) : Opn P W t 1 (fun s : ByteArray => [.string s]) (fun s => s.size ≤ maxLen) :=
  ⟨hc, fun H enc fuel cs x h => by obtain ⟨n, rfl, _, hw⟩ := DataW.trod_string ht h; exact ⟨n, rfl, hw⟩⟩
theorem Opn.map {sz : Nat} {F : α → List Value} {Pr : α → Prop} {F' : β → List Value} {Pr' : β → Prop} (h : Opn P W t sz F Pr) (g : α → β) (hF : ∀ a, F a = F' (g a)) (hP : ∀ a, Pr a → Pr' (g a)) : Opn P W t sz F' Pr' :=
  ⟨h.1, fun H enc fuel cs x hx => by obtain ⟨a, rfl, ha⟩ := h.2 H enc fuel cs x hx; exact ⟨g a, hF a, hP a ha⟩⟩

/-- A slice. -/
theorem opn_slice {c : El α} {Pr : α → Prop} (ht : P.underlying t = some (.slice e)) (hc : P.cellsOf t = 1) (he : Opn P W e c.sz c.F Pr) :
    Opn P W t 1 (fun a : Option Addr × Nat × List α => [.slice a.1 a.2.2.length a.2.1]) (fun a => Rd c W.heap a.1 a.2.2 ∧ (∀ x ∈ a.2.2, Pr x) ∧ a.2.2.length ≤ a.2.1 ∧ a.2.1 ≤ maxLen) := by
  refine ⟨hc, fun H enc fuel cs x h => ?_⟩
  rcases open_slice ht h with ⟨rfl, _⟩ | ⟨a, len, cap, m, n, D, Pl, rfl, _, hl, hm, hmm, _, hx⟩
  · exact ⟨(none, 0, []), rfl, Rd.nil _ _, by simp, Nat.le_refl _, by simp [maxLen]⟩
  · have each : ∀ i, i < len → ∃ q : α, Pr q ∧ ∀ j u, (c.F q)[j]? = some u → W.cell? (a.add (i * c.sz + j)) = some u := by
      intro i hi
      obtain ⟨cs', h1, h2⟩ := hx i (by rw [hmm]; simp; omega)
      obtain ⟨q, rfl, hq⟩ := he.2 _ _ _ _ _ h2
      rw [he.1] at h1
      obtain ⟨_, hlen, hcell⟩ := World.cells?_some h1
      refine ⟨q, hq, fun j u hu => ?_⟩
      have hj : j < c.sz := by have := (List.getElem?_eq_some_iff.1 hu).1; rwa [c.len] at this
      rw [← add_of_add, hcell j hj]
      exact hu
    have key : ∀ k, k ≤ len → ∃ l : List α, l.length = k ∧ (∀ x ∈ l, Pr x) ∧ ∀ i (hi : i < l.length), ∀ j u, (c.F l[i])[j]? = some u → W.cell? (a.add (i * c.sz + j)) = some u := by
      intro k
      induction k with
      | zero => intro _; exact ⟨[], rfl, by simp, fun i hi => absurd hi (by simp)⟩
      | succ k ih =>
        intro hk
        obtain ⟨l, h1, h2, h3⟩ := ih (by omega)
        obtain ⟨q, hq, hc⟩ := each k (by omega)
        refine ⟨l ++ [q], by simp [h1], ?_, ?_⟩
        · intro x hx
          rcases List.mem_append.1 hx with hx | hx
          · exact h2 x hx
          · simp at hx; subst hx; exact hq
        · intro i hi j u hu
          rcases Nat.lt_or_ge i l.length with hil | hil
          · rw [List.getElem_append_left hil] at hu
            exact h3 i hil j u hu
          · have : i = k := by simp at hi; omega
            subst this
            rw [List.getElem_append_right hil] at hu
            simp [h1] at hu
            exact hc j u hu
    obtain ⟨l, h1, h2, h3⟩ := key len (Nat.le_refl _)
    refine ⟨(some a, cap, l), by show _ = [Value.slice _ l.length _]; rw [h1], fun _ => ⟨a, rfl, fun j u hu => ?_⟩, h2, by show l.length ≤ cap; omega, hm⟩
    show W.cell? _ = _
    have hj : j < l.length * c.sz := by have := (List.getElem?_eq_some_iff.1 hu).1; rwa [c.flat_len] at this
    have hdiv : j / c.sz < l.length := by rw [Nat.div_lt_iff_lt_mul c.pos]; exact hj
    have hmod : j % c.sz < c.sz := Nat.mod_lt _ c.pos
    have := c.flat_get l (j / c.sz) (j % c.sz) l[j / c.sz] (List.getElem?_eq_getElem hdiv) hmod
    rw [Nat.div_add_mod'] at this
    rw [this] at hu
    have := h3 _ hdiv _ u hu
    rwa [Nat.div_add_mod'] at this

/-- An array. -/
theorem opn_array {n sz m : Nat} {F : α → List Value} {Pr : α → Prop} (ht : P.underlying t = some (.array n e)) (hc : P.cellsOf t = m) (hm : n * sz = m) (he : Opn P W e sz F Pr) :
    Opn P W t m (fun l : List α => l.flatMap F) (fun l => l.length = n ∧ ∀ x ∈ l, Pr x) := by
  refine ⟨hc, fun H enc fuel cs x h => ?_⟩
  obtain ⟨xs, k, _, _, hcl, hxl, hx⟩ := DataW.trod_array ht h
  rw [hc] at hcl
  have key : ∀ k, k ≤ n → ∃ l : List α, cs.take (k * sz) = l.flatMap F ∧ l.length = k ∧ ∀ a ∈ l, Pr a := by
    intro k
    induction k with
    | zero => intro _; exact ⟨[], by simp, rfl, by simp⟩
    | succ k ih =>
      intro hk
      obtain ⟨l, h1, h2, h3⟩ := ih (by omega)
      have g := hx k (by omega)
      rw [he.1, List.getElem?_eq_getElem (by omega)] at g
      obtain ⟨a, ha, hp⟩ := he.2 _ _ _ _ _ g
      refine ⟨l ++ [a], ?_, by simp [h2], fun b hb => ?_⟩
      · rw [Nat.add_mul, Nat.one_mul, List.take_add, h1, List.flatMap_append, ha]; simp
      · rcases List.mem_append.1 hb with hb | hb
        · exact h3 b hb
        · simp at hb; subst hb; exact hp
  obtain ⟨l, h1, h2, h3⟩ := key n (Nat.le_refl _)
  rw [hm, List.take_of_length_le (by omega)] at h1
  exact ⟨l, h1, h2, h3⟩

/-- The fields of a struct, from a cell on. -/
def OpnF (P : Program) (W : World) (L : Nat) (fs : List Field) (off : Nat) {α : Type} (F : α → List Value) (Pr : α → Prop) : Prop :=
  ∀ (H : Type) (enc : TypeId × Value → H) (n : Nat) (cs : List Value), cs.length = L → (∀ f ∈ fs, ∃ y, DataW.trod enc P W 0 (fun _ => true) true n f.type ((cs.drop f.offset).take (P.cellsOf f.type)) = some y) → ∃ a, cs.drop off = F a ∧ Pr a
theorem opnF_nil {L off : Nat} (h : off = L) : OpnF P W L [] off (fun _ : Unit => []) (fun _ => True) := fun H enc n cs hl _ => ⟨(), by rw [List.drop_of_length_le (by omega)], trivial⟩
theorem opnF_cons {L off sz : Nat} {f : Field} {fs : List Field} {F1 : α → List Value} {Pr1 : α → Prop} {F2 : β → List Value} {Pr2 : β → Prop} (ho : f.offset = off) (h1 : Opn P W f.type sz F1 Pr1) (h2 : OpnF P W L fs (off + sz) F2 Pr2) :
    OpnF P W L (f :: fs) off (fun a : α × β => F1 a.1 ++ F2 a.2) (fun a => Pr1 a.1 ∧ Pr2 a.2) := fun H enc n cs hl hf => by
  obtain ⟨y, hy⟩ := hf f (by simp)
  obtain ⟨a, ha, hpa⟩ := h1.2 _ _ _ _ _ hy
  obtain ⟨b, hb, hpb⟩ := h2 H enc n cs hl (fun g hg => hf g (by simp [hg]))
  refine ⟨(a, b), ?_, hpa, hpb⟩
  rw [ho, h1.1] at ha
  show cs.drop off = F1 a ++ F2 b
  rw [← ha, ← hb, ← List.drop_drop, List.take_append_drop]
theorem opn_struct {L : Nat} {fs : List Field} {F : α → List Value} {Pr : α → Prop} (ht : P.underlying t = some (.struct fs.toArray)) (hc : P.cellsOf t = L) (h : OpnF P W L fs 0 F Pr) : Opn P W t L F Pr := by
  refine ⟨hc, fun H enc fuel cs x hx => ?_⟩
  obtain ⟨xs, n, _, _, hl, hxl, hf⟩ := DataW.trod_struct ht hx
  obtain ⟨a, ha, hp⟩ := h H enc n cs (hl.trans hc) (fun f hfm => by
    obtain ⟨i, hi⟩ := List.getElem?_of_mem hfm
    have hlt := (List.getElem?_eq_some_iff.1 hi).1
    have := hf i f (by simpa using hi)
    refine ⟨xs[i]'(by simp at hxl; omega), ?_⟩
    rw [this, List.getElem?_eq_getElem (by simp at hxl; omega)])
  exact ⟨a, ha, hp⟩

variable {H : Type} {enc : TypeId × Value → H} {base : Nat} {v : Value} {d : DataW H} {p : List MemPlace}
/-- An argument that is a struct or an array. -/
theorem Opn.agg {dT : TypeDesc} {sz : Nat} {F : α → List Value} {Pr : α → Prop} (h : Opn P W t sz F Pr) (ht : P.underlying t = some dT) (hd : aggD dT = true) (hv : Value.okWide P W .any base t v) (hx : DataW.Trod enc P W 0 (fun _ => true) true t v d p) :
    ∃ a, v = .agg (F a).toArray ∧ Pr a := by
  obtain ⟨fuel, hf⟩ := hx
  obtain ⟨a, ha, hp⟩ := h.2 _ _ _ _ _ hf
  have : ∃ cs, v = .agg cs := by
    unfold Value.okWide at hv
    rw [ht] at hv
    cases dT <;> first | (exfalso; revert hd; simp [aggD]; done) | (obtain ⟨cs, rfl, _⟩ := hv; exact ⟨cs, rfl⟩) | (simp only at hv; obtain ⟨cs, rfl, _⟩ := hv; exact ⟨cs, rfl⟩)
  obtain ⟨cs, rfl⟩ := this
  refine ⟨a, ?_, hp⟩
  congr 1
  apply Array.toList_inj.1
  exact ha
/-- .. any other. -/
theorem Opn.one {f : α → Value} {Pr : α → Prop} (h : Opn P W t 1 (fun a => [f a]) Pr) (hv : isOne v = true) (hx : DataW.Trod enc P W 0 (fun _ => true) true t v d p) : ∃ a, v = f a ∧ Pr a := by
  obtain ⟨fuel, hf⟩ := hx
  obtain ⟨a, ha, hp⟩ := h.2 _ _ _ _ _ hf
  rw [cells_one hv] at ha
  exact ⟨a, by simpa using ha, hp⟩
theorem one_int {k : IntKind} (ht : P.underlying t = some (.int k)) (hv : Value.okWide P W .any base t v) : isOne v = true := by obtain ⟨n, rfl⟩ := okWide_int ht hv; rfl
theorem one_bool (ht : P.underlying t = some .bool) (hv : Value.okWide P W .any base t v) : isOne v = true := by obtain ⟨n, rfl⟩ := okWide_bool ht hv; rfl
theorem one_str (ht : P.underlying t = some .string) (hv : Value.okWide P W .any base t v) : isOne v = true := by obtain ⟨n, rfl⟩ := okWide_string ht hv; rfl
theorem one_slice (ht : P.underlying t = some (.slice e)) (hv : Value.okWide P W .any base t v) : isOne v = true := by obtain ⟨a, b, c, rfl⟩ := okWide_slice ht hv; rfl
end
end Go.Proofs.Ytcfnmklbkhibgaa
