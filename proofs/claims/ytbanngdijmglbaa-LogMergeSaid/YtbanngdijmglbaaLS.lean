/- The walker: a law's arguments, opened with the form's own reach (each slice takes fewer than 2^47 bytes). Nothing of the program. -/
import Derived.Test.YtbanngdijmglbaaLH
import Derived.SizedLaws
namespace Go.Proofs.Ytbanngdijmglbaa
open Go.ChangeShapes Go.WideShapes Go.ChangeAt Go.RowKit Go.Deep

/-- What is read as type t, and weighs no more than the reach, reads as F a, Pr a. -/
def OpnS (P : Program) (W : World) (t sz : Nat) {α : Type} (F : α → List Value) (Pr : α → Prop) : Prop :=
  P.cellsOf t = sz ∧ ∀ (H : Type) (enc : TypeId × Value → H) (fuel : Nat) (cs : List Value) (x : DataW H × List MemPlace), DataW.trod enc P W 0 (fun _ => true) true fuel t cs = some x → (x.1.weights P t).all (· ≤ reachBytes) = true → ∃ a, cs = F a ∧ Pr a
section
variable {P : Program} {W : World} {t e : TypeId} {α β : Type}
theorem Opn.sized {sz : Nat} {F : α → List Value} {Pr : α → Prop} (h : Opn P W t sz F Pr) : OpnS P W t sz F Pr := ⟨h.1, fun H enc fuel cs x hx _ => h.2 H enc fuel cs x hx⟩
theorem OpnS.map {sz : Nat} {F : α → List Value} {Pr : α → Prop} {F' : β → List Value} {Pr' : β → Prop} (h : OpnS P W t sz F Pr) (g : α → β) (hF : ∀ a, F a = F' (g a)) (hP : ∀ a, Pr a → Pr' (g a)) : OpnS P W t sz F' Pr' :=
  ⟨h.1, fun H enc fuel cs x hx hw => by obtain ⟨a, rfl, ha⟩ := h.2 H enc fuel cs x hx hw; exact ⟨g a, hF a, hP a ha⟩⟩
theorem weightsAll_mem {H : Type} {d : DataW H} : ∀ {l : List (DataW H)}, d ∈ l → ∀ n ∈ d.weights P e, n ∈ DataW.weightsAll P e l
  | x :: l, h, n, hn => by
    simp only [DataW.weightsAll, List.mem_append]
    rcases List.mem_cons.1 h with rfl | h
    · exact .inl hn
    · exact .inr (weightsAll_mem h n hn)
/-- A slice. -/
theorem opnS_slice {c : El α} {Pr : α → Prop} (ht : P.underlying t = some (.slice e)) (hc : P.cellsOf t = 1) (he : OpnS P W e c.sz c.F Pr) :
    OpnS P W t 1 (fun a : Option Addr × Nat × List α => [.slice a.1 a.2.2.length a.2.1]) (fun a => Rd c W.heap a.1 a.2.2 ∧ (∀ x ∈ a.2.2, Pr x) ∧ a.2.2.length ≤ a.2.1 ∧ a.2.1 ≤ maxLen ∧ a.2.2.length * P.bytesOf e ≤ reachBytes) := by
  refine ⟨hc, fun H enc fuel cs x h hw => ?_⟩
  rcases open_slice ht h with ⟨rfl, _⟩ | ⟨a, len, cap, m, n, D, Pl, rfl, _, hl, hm, hmm, rfl, hx⟩
  · exact ⟨(none, 0, []), rfl, Rd.nil _ _, by simp, Nat.le_refl _, by simp [maxLen], by simp⟩
  · simp only [DataW.weights, ht, List.all_cons, Bool.and_eq_true, List.all_append, decide_eq_true_eq] at hw
    obtain ⟨hw1, hw2, -⟩ := hw
    rw [List.length_map, List.length_range] at hw1
    have hw3 : len * P.bytesOf e ≤ reachBytes := by
      refine Nat.le_trans (Nat.mul_le_mul_right _ ?_) hw1
      omega
    have each : ∀ i, i < len → ∃ q : α, Pr q ∧ ∀ j u, (c.F q)[j]? = some u → W.cell? (a.add (i * c.sz + j)) = some u := by
      intro i hi
      obtain ⟨cs', h1, h2⟩ := hx i (by rw [hmm]; simp; omega)
      obtain ⟨q, rfl, hq⟩ := he.2 _ _ _ _ _ h2 (by
        rw [List.all_eq_true]
        intro w hwm
        exact List.all_eq_true.1 hw2 w (weightsAll_mem (List.mem_map.2 ⟨i, List.mem_range.2 hi, rfl⟩) w hwm))
      rw [he.1] at h1
      obtain ⟨_, hlen, hcell⟩ := World.cells?_some h1
      refine ⟨q, hq, fun j u hu => ?_⟩
      have hj : j < c.sz := by have := (List.getElem?_eq_some_iff.1 hu).1; rwa [c.len] at this
      rw [← add_of_add, hcell j hj]
      exact hu
    have key : ∀ k, k ≤ len → ∃ l : List α, l.length = k ∧ (∀ x ∈ l, Pr x) ∧ ∀ i (hi : i < l.length), ∀ j u, (c.F l[i])[j]? = some u → W.cell? (a.add (i * c.sz + j)) = some u := by
      intro k
      induction k with
      | zero => intro _; exact ⟨[], rfl, by simp, fun i hi => absurd hi (by simp)⟩
      | succ k ih =>
        intro hk
        obtain ⟨l, h1, h2, h3⟩ := ih (by omega)
        obtain ⟨q, hq, hc⟩ := each k (by omega)
        refine ⟨l ++ [q], by simp [h1], ?_, ?_⟩
        · intro x hx
          rcases List.mem_append.1 hx with hx | hx
          · exact h2 x hx
          · simp at hx; subst hx; exact hq
        · intro i hi j u hu
          rcases Nat.lt_or_ge i l.length with hil | hil
          · rw [List.getElem_append_left hil] at hu
            exact h3 i hil j u hu
          · have : i = k := by simp at hi; omega
            subst this
            rw [List.getElem_append_right hil] at hu
            simp [h1] at hu
            exact hc j u hu
    obtain ⟨l, h1, h2, h3⟩ := key len (Nat.le_refl _)
    refine ⟨(some a, cap, l), by show _ = [Value.slice _ l.length _]; rw [h1], fun _ => ⟨a, rfl, fun j u hu => ?_⟩, h2, by show l.length ≤ cap; omega, hm, by show l.length * _ ≤ _; rw [h1]; exact hw3⟩
    show W.cell? _ = _
    have hj : j < l.length * c.sz := by have := (List.getElem?_eq_some_iff.1 hu).1; rwa [c.flat_len] at this
    have hdiv : j / c.sz < l.length := by rw [Nat.div_lt_iff_lt_mul c.pos]; exact hj
    have hmod : j % c.sz < c.sz := Nat.mod_lt _ c.pos
    have := c.flat_get l (j / c.sz) (j % c.sz) l[j / c.sz] (List.getElem?_eq_getElem hdiv) hmod
    rw [Nat.div_add_mod'] at this
    rw [this] at hu
    have := h3 _ hdiv _ u hu
    rwa [Nat.div_add_mod'] at this
end
set_option maxRecDepth 100000 in
theorem law_lifted_sized {os : Os} (started : os.Started) {H : Type} {enc : TypeId × Value → H} {f : FuncId} {fn : Func} (s : ChangeSpec) (hvars : s.vars = [])
    (noInit : Try.prog.inits.idxOf? f = none) (hfn : Try.prog.funcs[f]? = some fn) (hres : fn.resultTypes = #[4])
    (hspec : ∀ ds : List (DataW H), ds.length = fn.params.toList.length → s.fn H ds = { results := [.lit (.bool true)], args := ds })
    (hread : ∀ t ∈ fn.params.toList, Try.prog.readableRec t = true ∧ t < Try.prog.types.size)
    (witness : ∃ (w : World) (tape : Tape) (i : Input), w.os = os ∧ (w.forCall tape i).Shaped Try.prog ∧ i.vars = [] ∧ Input.okWide Try.prog (w.forCall tape i) .any w.heap.size f i ∧
      s.pre6 enc Try.prog fn [] false (w.forCall tape i).memory i.args ∧ Assume.holds {} Try.prog (lone (Frame.enter Try.prog f i.args .normal) [] (w.forCall tape i)))
    (walk : ∀ (W : World) (base : Nat) (args : Array Value) (ds : List (DataW H)) (p : List MemPlace),
      (∀ (j : Nat) t v, fn.params[j]? = some t → args[j]? = some v → Value.okWide Try.prog W .any base t v) →
      DataW.TrodAll enc Try.prog W 0 (fun _ => true) true fn.params.toList args.toList ds p →
      (DataW.weightsEach Try.prog fn.params.toList ds).all (· ≤ reachBytes) = true →
      CallsH Try.prog f args.toList W.heap fun v H' => v = .bool true ∧ Ext W.heap H') :
    ReturnsInHanded {} Try.checked os f .any (s.pre6 enc Try.prog fn [] false) (s.post enc Try.prog fn false true false false) := by
  refine returnsInHanded_of_change_sized (C := Try.checked) Frame.own started noInit hfn witness ?_
  intro W base args ds gs before hval0 hW _ hwt _
  have hlt : ∀ x ∈ before, x.block < W.heap.size := fun x hx => hW.lt x hx
  have hW' := hW
  obtain ⟨p, q, hA, hV, rfl, hfz, hnd⟩ := hW
  rw [hvars] at hV
  obtain ⟨rfl, rfl⟩ := trodVars_none hV
  rw [List.append_nil] at hlt hW'
  have e1 : s.plain.varTypes Try.checked.prog = [] := by unfold ChangeSpec.plain DataSpec.varTypes; simp [hvars]
  rw [e1, List.append_nil, List.append_nil, show Try.checked.prog = Try.prog from rfl] at hwt
  have hds := trodAll_length _ _ _ _ hA
  have hcall := walk W base args ds p hval0 hA hwt W rfl
  simp only [Array.toArray_toList] at hcall
  refine hcall.mono fun e W' ⟨v, he, hsame, hv, hext⟩ => ?_
  have bel : Below W.heap.size W W' := ⟨hsame.os, hsame.tape, hsame.output, hext.size, fun k hk => hext.at_ k hk⟩
  subst he; subst hv
  refine ⟨_, rfl, ds, [], p, [], p, [], hW', ?_, ?_, ?_, bel.frame _, fun h => by cases h⟩
  · rw [List.append_nil, hspec ds hds, hres]
    exact trodAll_mk1 (shut_bool Try.underlying4 _)
  · rw [List.append_nil, hspec ds hds]
    exact trodAll_below Frame.laidOut bel _ _ _ _ hread hA hlt
  · rw [List.append_nil, hspec ds hds, hvars]
    rfl
end Go.Proofs.Ytbanngdijmglbaa
