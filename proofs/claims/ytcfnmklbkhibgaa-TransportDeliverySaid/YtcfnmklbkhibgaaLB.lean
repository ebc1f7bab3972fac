/- The walker, part 2: one operation; a region in the order of its text; a region that draws its order, walked in the order of its text. Nothing of the program. -/
import Derived.Test.YtcfnmklbkhibgaaLA
namespace Go.Proofs.Ytcfnmklbkhibgaa

/-- What an operation hands back: K v of the heap behind it. It does not panic. -/
def StepUpon (P : Program) (w0 : World) (K : Value → Heap → Prop) : Result Next → Prop
  | .ok (.value v) w' => Same w0 w' ∧ K v w'.heap
  | .ok .skip w' => Same w0 w' ∧ K undef w'.heap
  | .ok (.enter f args) w' => Calls P f args w' fun e w'' => ∃ v, e = .returned v ∧ Same w0 w'' ∧ K v w''.heap
  | _ => False
def Step (P : Program) (n : Nat) (o : Oper) (E : Env) (H : Heap) (K : Value → Heap → Prop) : Prop :=
  ∀ w0 w : World, Same w0 w → w.heap = H → StepUpon P w0 K ((execOp (ev n E) o).run P w)
/-- The operation yields v and leaves all as it is. -/
def Yld (P : Program) (n : Nat) (o : Oper) (E : Env) (H : Heap) (v : Value) : Prop := ∀ w : World, w.heap = H → (execOp (ev n E) o).run P w = .ok (.value v) w
/-- The operation makes a block. -/
def Nyl (P : Program) (n : Nat) (o : Oper) (E : Env) (mk : Nat → Value) (obj : Obj) : Prop := ∀ w : World, (execOp (ev n E) o).run P w = .ok (.value (mk w.heap.size)) (w.alloc obj)

/-- The operation makes a block, of which only Q is known. -/
def Nyq (P : Program) (n : Nat) (o : Oper) (E : Env) (Q : Nat → Value → Obj → Prop) : Prop := ∀ w : World, ∃ v obj w', (execOp (ev n E) o).run P w = .ok (.value v) w' ∧ Same w w' ∧ w'.heap = w.heap.push obj ∧ Q w.heap.size v obj
theorem Nyl.nyq {P : Program} {n : Nat} {o : Oper} {E : Env} {mk : Nat → Value} {obj : Obj} (h : Nyl P n o E mk obj) : Nyq P n o E fun g v ob => v = mk g ∧ ob = obj :=
  fun w => ⟨_, _, _, h w, ⟨rfl, rfl, rfl⟩, rfl, rfl, rfl⟩

theorem StepUpon.mono {P : Program} {w0 : World} {K K' : Value → Heap → Prop} (h : ∀ v H, K v H → K' v H) {r : Result Next} (hr : StepUpon P w0 K r) : StepUpon P w0 K' r := by
  cases r with
  | ok x w =>
    cases x <;> simp only [StepUpon] at hr ⊢
    case value v => exact ⟨hr.1, h _ _ hr.2⟩
    case skip => exact ⟨hr.1, h _ _ hr.2⟩
    case enter f args => exact hr.mono fun _ _ ⟨v, he, hs, hk⟩ => ⟨v, he, hs, h _ _ hk⟩
  | halt x w => exact hr.elim
theorem Step.mono {P : Program} {n : Nat} {o : Oper} {E : Env} {H : Heap} {K K' : Value → Heap → Prop} (h : ∀ v H, K v H → K' v H) (hs : Step P n o E H K) : Step P n o E H K' :=
  fun w0 w hw he => StepUpon.mono h (hs w0 w hw he)
theorem StepUpon.some_ {P : Program} {w0 : World} {K : Value → Heap → Prop} {r : Result Next} (hr : StepUpon P w0 K r) : ∃ v H, K v H := by
  cases r with
  | ok x w =>
    cases x <;> simp only [StepUpon] at hr
    case value v => exact ⟨_, _, hr.2⟩
    case skip => exact ⟨_, _, hr.2⟩
    case enter f args =>
      obtain ⟨e, w', fr, ⟨v, _, _, hk⟩, _⟩ := hr []
      exact ⟨_, _, hk⟩
  | halt x w => exact hr.elim
theorem worldOf (H : Heap) : ∃ w : World, w.heap = H := ⟨{ (default : World) with heap := H }, rfl⟩
theorem Step.some_ {P : Program} {n : Nat} {o : Oper} {E : Env} {H : Heap} {K : Value → Heap → Prop} (hs : Step P n o E H K) : ∃ v H, K v H := by
  obtain ⟨w, hw⟩ := worldOf H
  exact (hs w w (Same.refl w) hw).some_
theorem Yld.step {P : Program} {n : Nat} {o : Oper} {E : Env} {H : Heap} {v : Value} {K : Value → Heap → Prop} (h : Yld P n o E H v) (hk : K v H) : Step P n o E H K := by
  intro w0 w hs hw
  rw [h w hw]
  exact ⟨hs, by rw [hw]; exact hk⟩
theorem Nyl.step {P : Program} {n : Nat} {o : Oper} {E : Env} {H : Heap} {mk : Nat → Value} {obj : Obj} {K : Value → Heap → Prop} (h : Nyl P n o E mk obj) (hk : K (mk H.size) (H.push obj)) : Step P n o E H K := by
  intro w0 w hs hw
  rw [h w]
  exact ⟨⟨hs.os, hs.tape, hs.output⟩, by rw [hw]; show K _ (w.heap.push obj); rw [hw]; exact hk⟩
theorem Yld.det {P : Program} {n : Nat} {o : Oper} {E : Env} {H : Heap} {v u : Value} (h : Yld P n o E H v) (k : Yld P n o E H u) : v = u := by
  obtain ⟨w, hw⟩ := worldOf H
  have := (h w hw).symm.trans (k w hw)
  injection this with h1 _
  injection h1
theorem Nyl.det {P : Program} {n : Nat} {o : Oper} {E : Env} {mk mk' : Nat → Value} {obj obj' : Obj} (h : Nyl P n o E mk obj) (k : Nyl P n o E mk' obj') : mk = mk' ∧ obj = obj' := by
  constructor
  · funext m
    obtain ⟨w, hw⟩ := worldOf (Array.replicate m (default : Obj))
    have := (h w).symm.trans (k w)
    injection this with h1 _
    injection h1 with h1
    rw [hw] at h1
    simpa using h1
  · obtain ⟨w, hw⟩ := worldOf #[]
    have := (h w).symm.trans (k w)
    injection this with _ h2
    have h3 : w.heap.push obj = w.heap.push obj' := congrArg World.heap h2
    exact (Array.push_inj_left.1 (by rw [h3])) |> fun _ => by
      have := congrArg (fun a : Array Obj => a.back?) h3
      simpa using this

/-- The step, as the kit has it. -/
theorem wpOf {P : Program} {n : Nat} {o : Oper} {E : Env} {K : Value → Heap → Prop} {w0 w : World} (this : StepUpon P w0 K ((execOp (ev n E) o).run P w)) {K' : Act → World → Prop} {Q : Exit → Act → World → Prop}
    (h : ∀ v w', Same w0 w' → K v w'.heap → K' (act n (updO E o.dst v)) w') : o.wp P (act n E) w K' Q := by
  unfold Oper.wp
  rw [act_eval]
  generalize (execOp (ev n E) o).run P w = r at *
  cases r with
  | ok x w' =>
    cases x <;> simp only [StepUpon] at this <;> simp only [Oper.upon]
    case value v => rw [act_put]; exact h _ _ this.1 this.2
    case skip => rw [act_put]; exact h _ _ this.1 this.2
    case enter f args =>
      refine this.mono ?_
      rintro e w'' ⟨v, rfl, hs, hk⟩
      simp only [act_put]
      exact h _ _ hs hk
  | halt x w' => exact this.elim
theorem Step.wp {P : Program} {n : Nat} {o : Oper} {E : Env} {H : Heap} {K : Value → Heap → Prop} (hs : Step P n o E H K) {w0 w : World} (h0 : Same w0 w) (hw : w.heap = H) {K' : Act → World → Prop} {Q : Exit → Act → World → Prop}
    (h : ∀ v w', Same w0 w' → K v w'.heap → K' (act n (updO E o.dst v)) w') : o.wp P (act n E) w K' Q := wpOf (hs w0 w h0 hw) h

/-- Is the operation wanted (its guard)? -/
def wantE (ops : List Oper) (n : Nat) (E : Env) (o : Oper) : Bool :=
  match o.guard with
  | none => true
  | some (j, b) => match (ops[j]?).bind (·.dst) with
    | some t => match (bif Nat.blt t n then E t else undef) with
      | .bool c => c == b
      | _ => false
    | none => false
theorem wanted_eq (ops : List Oper) (n : Nat) (E : Env) (o : Oper) : Region.wanted o (yielded ops.toArray (act n E).tmps) = wantE ops n E o := by
  unfold Region.wanted wantE
  cases o.guard with
  | none => rfl
  | some g =>
    obtain ⟨j, b⟩ := g
    simp only [yielded, List.getElem?_toArray]
    cases (ops[j]?).bind (·.dst) with
    | none => rfl
    | some t =>
      simp only [Option.bind_some, act_tmp, blt_eq]
      by_cases h : t < n
      · simp only [h, if_true, decide_true, cond_true]
        cases E t <;> first | rfl | simp
      · simp only [h, if_false, decide_false, cond_false]
        rfl

/-- A region in the order of its text. -/
def Seq (P : Program) (n : Nat) (ops : List Oper) (K : Env → Heap → Prop) : List Oper → Env → Heap → Prop
  | [], E, H => K E H
  | o :: l, E, H =>
    (wantE ops n E o = true → Step P n o E H fun v H' => Seq P n ops K l (updO E o.dst v) H') ∧ (wantE ops n E o = false → Seq P n ops K l (updO E o.dst undef) H)
theorem seq_sound {P : Program} {n : Nat} {ops : List Oper} {K : Env → Heap → Prop} {w0 : World} {Q : Exit → Act → World → Prop} (hQ : ∀ E w, Same w0 w → K E w.heap → Q .normal (act n E) w) :
    ∀ (l : List Oper) (E : Env) (H : Heap), Seq P n ops K l E H → ∀ w, Same w0 w → w.heap = H → wpList P ops.toArray Q l (act n E) w
  | [], E, H, h, w, hs, hw => hQ E w hs (by rw [hw]; exact h)
  | o :: l, E, H, h, w, hs, hw => by
    unfold wpList
    rw [wanted_eq]
    cases hwt : wantE ops n E o
    · simp only [Bool.false_eq_true, if_false]
      rw [act_put]
      exact seq_sound hQ l _ H (h.2 hwt) w hs hw
    · simp only [if_true]
      exact .inl ((h.1 hwt).wp hs hw fun v w' hs' hk => seq_sound hQ l _ _ hk w' hs' rfl)
theorem wpRegion {P : Program} {n id : Nat} {l : List Oper} {N R : Env → Heap → Prop} {X : Nat → Env → Heap → Prop} {E : Env} {H : Heap} (h : Seq P n l N l E H) : WP P n (.region id l.toArray false) N R X E H := by
  intro w0 w hs hw
  exact wp_region_lit (seq_sound (fun E w hs h => ⟨hs, E, rfl, h⟩) l E H h w hs hw)

/- ONE OPERATION'S RULES -/
section
variable {P : Program} {n : Nat} {ops : List Oper} {K : Env → Heap → Prop} {l : List Oper} {o : Oper} {E : Env} {H : Heap} {d : Nat} {v : Value}
theorem seqNil (h : K E H) : Seq P n ops K [] E H := h
theorem seqQ (hd : o.dst = some d) (hg : wantE ops n E o = true) (h : Yld P n o E H v) (hk : Seq P n ops K l (upd E d v) H) : Seq P n ops K (o :: l) E H :=
  ⟨fun _ => h.step (by rw [hd]; exact hk), fun h' => by rw [hg] at h'; cases h'⟩
theorem seqU (hd : o.dst = some d) (hg : wantE ops n E o = false) (hk : Seq P n ops K l (upd E d undef) H) : Seq P n ops K (o :: l) E H :=
  ⟨fun h' => (by rw [hg] at h'; cases h'), fun _ => by rw [hd]; exact hk⟩
theorem seqU0 (hd : o.dst = none) (hg : wantE ops n E o = false) (hk : Seq P n ops K l E H) : Seq P n ops K (o :: l) E H :=
  ⟨fun h' => (by rw [hg] at h'; cases h'), fun _ => by rw [hd]; exact hk⟩
theorem seqE (hd : o.dst = some d) (hg : wantE ops n E o = true) (h : Step P n o E H fun v H' => Seq P n ops K l (upd E d v) H') : Seq P n ops K (o :: l) E H :=
  ⟨fun _ => by rw [hd]; exact h, fun h' => by rw [hg] at h'; cases h'⟩
theorem seqE0 (hd : o.dst = none) (hg : wantE ops n E o = true) (h : Step P n o E H fun _ H' => Seq P n ops K l E H') : Seq P n ops K (o :: l) E H :=
  ⟨fun _ => by rw [hd]; exact h, fun h' => by rw [hg] at h'; cases h'⟩
end

end Go.Proofs.Ytcfnmklbkhibgaa
