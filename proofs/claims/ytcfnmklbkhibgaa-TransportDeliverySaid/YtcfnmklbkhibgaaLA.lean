/- The walker, part 1: frames as functions, worlds as heaps, code by continuations; regions in the order of the text. Nothing of the program. -/
import Derived.Tactics
import Derived.Tactics2
import Derived.Orders
import Derived.Laws.World
import Derived.Deep.LoopGhost
import Derived.Deep.Draws
import Derived.KernelRfl
namespace Go.Proofs.Ytcfnmklbkhibgaa

abbrev Env := Nat → Value
abbrev Heap := Array Obj

/-- The frame with slot i turned. -/
def upd (E : Env) (i : Nat) (v : Value) : Env := fun j => bif Nat.beq j i then v else E j
def nth : List Value → Nat → Value
  | [], _ => undef
  | v :: _, 0 => v
  | _ :: l, i + 1 => nth l i
def updO (E : Env) : Option Nat → Value → Env
  | none, _ => E
  | some d, v => upd E d v
def act (n : Nat) (E : Env) : Act := { tmps := Array.ofFn fun i : Fin n => E i, defers := [] }
/-- An operand's value. -/
def ev (n : Nat) (E : Env) : Operand → Value
  | .tmp t => bif Nat.blt t n then E t else undef
  | .const v => v
  | .global g => .pointer (some ⟨g, 0, none⟩)
  | .func f => .func (.func f) #[] #[]
def evs (n : Nat) (E : Env) : List Operand → List Value
  | [] => []
  | x :: l => ev n E x :: evs n E l

theorem upd_same (E : Env) (i : Nat) (v : Value) : upd E i v i = v := by simp [upd]
theorem upd_ne (E : Env) {i j : Nat} (h : j ≠ i) (v : Value) : upd E i v j = E j := by
  have : Nat.beq j i = false := by rw [← Bool.not_eq_true, Nat.beq_eq]; exact h
  simp [upd, this]
theorem upd_comm (E : Env) {i j : Nat} (h : i ≠ j) (v u : Value) : upd (upd E i v) j u = upd (upd E j u) i v := by
  funext k
  by_cases h1 : k = i
  · subst h1; rw [upd_ne _ h, upd_same, upd_same]
  · by_cases h2 : k = j
    · subst h2; rw [upd_same, upd_ne _ h1, upd_same]
    · rw [upd_ne _ h2, upd_ne _ h1, upd_ne _ h1, upd_ne _ h2]
theorem upd_eta {E : Env} {i : Nat} {v : Value} (h : E i = v) : E = upd E i v := by
  funext k
  by_cases h1 : k = i
  · subst h1; rw [upd_same, h]
  · rw [upd_ne _ h1]

theorem act_tmp (n : Nat) (E : Env) (t : Nat) : (act n E).tmps[t]? = if t < n then some (E t) else none := by
  simp [act, Array.getElem?_ofFn]
theorem blt_eq (t n : Nat) : Nat.blt t n = decide (t < n) := by
  rw [Bool.eq_iff_iff, Nat.blt_eq]; simp
theorem act_eval (n : Nat) (E : Env) : (act n E).eval = ev n E := by
  funext x
  cases x with
  | tmp t =>
    simp only [Act.eval, ev, Array.getD_eq_getD_getElem?, act_tmp, blt_eq]
    by_cases h : t < n <;> simp [h]
  | _ => rfl
theorem act_put (n : Nat) (E : Env) (d : Option Nat) (v : Value) : (act n E).put d v = act n (updO E d v) := by
  cases d with
  | none => rfl
  | some d =>
    unfold Act.put updO
    refine congrArg (fun t => Act.mk t []) ?_
    apply Array.ext
    · simp [act]
    · intro i h1 h2
      simp only [act] at h1 ⊢
      rw [Array.getElem_setIfInBounds (by simpa using h1)]
      simp only [Array.getElem_ofFn]
      by_cases h : d = i
      · subst h; simp [upd_same]
      · simp only [h, if_false]; rw [upd_ne _ (Ne.symm h)]
theorem evs_map (n : Nat) (E : Env) (l : List Operand) : evs n E l = l.map (ev n E) := by
  induction l with
  | nil => rfl
  | cons x l ih => simp [evs, ih]

/-- The streams are as they were. -/
structure Same (w w' : World) : Prop where
  os : w'.os = w.os
  tape : w'.tape = w.tape
  output : w'.output = w.output
theorem Same.refl (w : World) : Same w w := ⟨rfl, rfl, rfl⟩
theorem Same.trans {a b c : World} (h : Same a b) (k : Same b c) : Same a c := ⟨k.os.trans h.os, k.tape.trans h.tape, k.output.trans h.output⟩

/-- The heap has only grown. -/
structure Ext (H H' : Heap) : Prop where
  size : H.size ≤ H'.size
  at_ : ∀ b, b < H.size → H'[b]? = H[b]?
theorem Ext.refl (H : Heap) : Ext H H := ⟨Nat.le_refl _, fun _ _ => rfl⟩
theorem Ext.trans {a b c : Heap} (h : Ext a b) (k : Ext b c) : Ext a c := ⟨Nat.le_trans h.size k.size, fun i hi => (k.at_ i (Nat.lt_of_lt_of_le hi h.size)).trans (h.at_ i hi)⟩
theorem Ext.push (H : Heap) (o : Obj) : Ext H (H.push o) := ⟨by simp, fun b hb => by rw [Array.getElem?_push, if_neg (by omega)]⟩
/-- .. but for the blocks of M. -/
structure Keep (M : List Nat) (H H' : Heap) : Prop where
  size : H.size ≤ H'.size
  at_ : ∀ b, b < H.size → b ∉ M → H'[b]? = H[b]?
theorem Ext.keep {H H' : Heap} (h : Ext H H') (M : List Nat) : Keep M H H' := ⟨h.size, fun b hb _ => h.at_ b hb⟩
theorem Keep.refl (M : List Nat) (H : Heap) : Keep M H H := ⟨Nat.le_refl _, fun _ _ _ => rfl⟩
theorem Keep.trans {M : List Nat} {a b c : Heap} (h : Keep M a b) (k : Keep M b c) : Keep M a c :=
  ⟨Nat.le_trans h.size k.size, fun i hi hm => (k.at_ i (Nat.lt_of_lt_of_le hi h.size) hm).trans (h.at_ i hi hm)⟩
theorem Keep.mono {M M' : List Nat} {a b : Heap} (h : Keep M a b) (hM : ∀ x ∈ M, x ∈ M') : Keep M' a b := ⟨h.size, fun i hi hm => h.at_ i hi fun hx => hm (hM i hx)⟩
theorem Keep.ext {a b : Heap} (h : Keep [] a b) : Ext a b := ⟨h.size, fun i hi => h.at_ i hi (by simp)⟩

def npost (w0 : World) (n : Nat) (K : Env → Heap → Prop) : Exit → Act → World → Prop :=
  fun e a w => e = .normal ∧ Same w0 w ∧ ∃ E, a = act n E ∧ K E w.heap
def post (w0 : World) (n : Nat) (N R : Env → Heap → Prop) (X : Nat → Env → Heap → Prop) : Exit → Act → World → Prop :=
  fun e a w => Same w0 w ∧ ∃ E, a = act n E ∧ match e with
    | .normal => N E w.heap
    | .ret => R E w.heap
    | .exit i => X i E w.heap
    | _ => False

/-- Code c from the frame E and the heap H: N if it runs to its end, R if it returns, X if it leaves a block. It does not panic. -/
def WP (P : Program) (n : Nat) (c : Code) (N R : Env → Heap → Prop) (X : Nat → Env → Heap → Prop) (E : Env) (H : Heap) : Prop :=
  ∀ w0 w : World, Same w0 w → w.heap = H → c.wp P (post w0 n N R X) (act n E) w
/-- The call returns v, R v. -/
def CallsH (P : Program) (f : FuncId) (args : List Value) (H : Heap) (R : Value → Heap → Prop) : Prop :=
  ∀ w : World, w.heap = H → Calls P f args.toArray w fun e w' => ∃ v, e = .returned v ∧ Same w w' ∧ R v w'.heap
theorem CallsH.mono {P : Program} {f : FuncId} {args : List Value} {H : Heap} {R R' : Value → Heap → Prop} (h : CallsH P f args H R) (hr : ∀ v H', R v H' → R' v H') : CallsH P f args H R' :=
  fun w hw => (h w hw).mono fun _ _ ⟨v, he, hs, hR⟩ => ⟨v, he, hs, hr _ _ hR⟩

section rules
variable {P : Program} {n : Nat} {N R : Env → Heap → Prop} {X : Nat → Env → Heap → Prop} {E : Env} {H : Heap}

theorem wpSkip (h : N E H) : WP P n .skip N R X E H := fun w0 w hs hw => wp_skip ⟨hs, E, rfl, by subst hw; exact h⟩
theorem wpRet (h : R E H) : WP P n .ret N R X E H := fun w0 w hs hw => wp_ret ⟨hs, E, rfl, by subst hw; exact h⟩
theorem wpExit {id : Nat} (h : X id E H) : WP P n (.exit id) N R X E H := fun w0 w hs hw => wp_exit ⟨hs, E, rfl, by subst hw; exact h⟩
theorem wpSeq {x y : Code} (h : ∀ F : Env → Heap → Prop, (∀ E' H', WP P n y N R X E' H' → F E' H') → WP P n x F R X E H) : WP P n (.seq x y) N R X E H := by
  intro w0 w hs hw
  refine wp_seq (Code.wp_mono ?_ (h (WP P n y N R X) (fun _ _ h => h) w0 w hs hw))
  rintro e a w1 ⟨hs1, E1, rfl, h1⟩
  cases e with
  | normal => exact h1 w0 w1 hs1 rfl
  | ret => exact ⟨hs1, E1, rfl, h1⟩
  | exit i => exact ⟨hs1, E1, rfl, h1⟩
  | goto i => exact h1.elim
  | panic c => exact h1.elim
  | outgrown => exact h1.elim
theorem wpCond {c : Operand} {x y : Code} {b : Bool} (hc : ev n E c = .bool b) (ht : b = true → WP P n x N R X E H) (hf : b = false → WP P n y N R X E H) : WP P n (.cond c x y) N R X E H := by
  intro w0 w hs hw
  exact wp_cond_split (by rw [act_eval]; exact hc) (fun h => ht h w0 w hs hw) (fun h => hf h w0 w hs hw)
/-- .. a test that is a proposition decided. -/
theorem wpIf {c : Operand} {x y : Code} {p : Prop} [Decidable p] (hc : ev n E c = .bool (decide p)) (ht : p → WP P n x N R X E H) (hf : ¬ p → WP P n y N R X E H) : WP P n (.cond c x y) N R X E H :=
  wpCond hc (fun h => ht (of_decide_eq_true h)) (fun h => hf (of_decide_eq_false h))
theorem wpT {c : Operand} {x y : Code} (hc : ev n E c = .bool true) (ht : WP P n x N R X E H) : WP P n (.cond c x y) N R X E H := wpCond hc (fun _ => ht) (fun h => by cases h)
theorem wpF {c : Operand} {x y : Code} (hc : ev n E c = .bool false) (hf : WP P n y N R X E H) : WP P n (.cond c x y) N R X E H := wpCond hc (fun h => by cases h) (fun _ => hf)
theorem wpBlock {id : Nat} {c : Code} (h : WP P n c N R (fun j => if j = id then N else X j) E H) : WP P n (.block id c) N R X E H := by
  intro w0 w hs hw
  refine wp_block (Code.wp_mono ?_ (h w0 w hs hw))
  rintro e a w1 ⟨hs1, E1, rfl, h1⟩
  cases e with
  | normal => exact ⟨hs1, E1, rfl, h1⟩
  | ret => exact ⟨hs1, E1, rfl, h1⟩
  | exit i =>
    simp only [Exit.inBlock]
    by_cases hi : i = id
    · simp only [hi, if_true] at h1 ⊢
      exact ⟨hs1, E1, rfl, h1⟩
    · simp only [hi, if_false] at h1 ⊢
      exact ⟨hs1, E1, rfl, h1⟩
  | goto i => exact h1.elim
  | panic c => exact h1.elim
  | outgrown => exact h1.elim
theorem wpLoop {c : Code} (I : Nat → Env → Heap → Prop) {m : Nat} (h0 : I m E H)
    (round : ∀ (m : Nat) (E : Env) (H : Heap), I m E H → WP P n c (fun E' H' => ∃ m', m' < m ∧ I m' E' H') R X E H) : WP P n (.loop c) N R X E H := by
  intro w0 w hs hw
  refine wp_loop_ghost (fun m a w => Same w0 w ∧ ∃ E, a = act n E ∧ I m E w.heap) m ⟨hs, E, rfl, by rw [hw]; exact h0⟩ ?_
  rintro m a w ⟨hs1, E1, rfl, h1⟩
  refine Code.wp_mono ?_ (round m E1 w.heap h1 w0 w hs1 rfl)
  rintro e a w2 ⟨hs2, E2, rfl, h2⟩
  cases e with
  | normal => obtain ⟨m', hm, hI⟩ := h2; exact ⟨m', hm, hs2, E2, rfl, hI⟩
  | ret => exact ⟨hs2, E2, rfl, h2⟩
  | exit i => exact ⟨hs2, E2, rfl, h2⟩
  | goto i => exact h2.elim
  | panic c => exact h2.elim
  | outgrown => exact h2.elim
end rules
end Go.Proofs.Ytcfnmklbkhibgaa
