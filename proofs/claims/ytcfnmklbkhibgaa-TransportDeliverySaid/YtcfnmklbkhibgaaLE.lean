/- The walker, part 5: what the single operations yield; calls; a function's body. Nothing of the program. -/
import Derived.Test.YtcfnmklbkhibgaaLD
import Derived.WalkKit
namespace Go.Proofs.Ytcfnmklbkhibgaa
open Go.RowKit

section
variable {P : Program} {n : Nat} {ops : List Oper} {kd : List Kd} {Ms : List Nat} {H0 : Heap} {M0 : List Nat} {K : Env → Heap → Prop} {i : Nat} {l : List Nat} {o : Oper} {E : Env} {Hc : Heap} {M : List Nat} {N : List NF} {d : Nat} {v : Value}
theorem lexNil (h : ∀ H, Ext Hc H → Keep M0 H0 H → (∀ x ∈ N, H[x.g]? = some x.o) → K E H) : Lex P n ops kd Ms H0 M0 K [] E Hc M N := fun H hx hk hN => h H hx.1 hk fun x hx => (hN x hx).1
/-- .. and that none of it is among what may turn. -/
theorem lexNilM (h : ∀ H, Ext Hc H → Keep M0 H0 H → (∀ x ∈ N, H[x.g]? = some x.o) → (∀ x ∈ N, x.g ∉ M) → K E H) : Lex P n ops kd Ms H0 M0 K [] E Hc M N := fun H hx hk hN => h H hx.1 hk (fun x hx => (hN x hx).1) (fun x hx => (hN x hx).2)
/-- Nothing has been made: the heap is known. -/
theorem lexNil0 (hn : noN kd = true) (h : Keep M0 H0 Hc → K E Hc) : Lex P n ops kd Ms H0 M0 K [] E Hc M N := fun H hx hk _ => by
  obtain rfl := hx.2 hn
  exact h hk
theorem lexQ (ho : ops[i]? = some o) (hk : nthK kd i = .q) (hd : o.dst = some d) (hg : wantE ops n E o = true) (h : ∀ H, Keep M0 H0 H → Yld P n o E H v)
    (hl : Lex P n ops kd Ms H0 M0 K l (upd E d v) Hc M N) : Lex P n ops kd Ms H0 M0 K (i :: l) E Hc M N := by
  intro o' ho'
  obtain rfl : o = o' := Option.some.inj (ho.symm.trans ho')
  refine ⟨fun h' => (by rw [hg] at h'; cases h'), fun _ => ?_⟩
  simp only [hk, hd]
  exact ⟨v, h, hl⟩
theorem lexU (ho : ops[i]? = some o) (hd : o.dst = some d) (hg : wantE ops n E o = false) (hl : Lex P n ops kd Ms H0 M0 K l (upd E d undef) Hc M N) : Lex P n ops kd Ms H0 M0 K (i :: l) E Hc M N := by
  intro o' ho'
  obtain rfl : o = o' := Option.some.inj (ho.symm.trans ho')
  refine ⟨fun _ => (by rw [hd]; exact hl), fun h' => (by rw [hg] at h'; cases h')⟩
theorem lexN {mk : Nat → Value} {obj : Obj} (ho : ops[i]? = some o) (hk : nthK kd i = .n) (hd : o.dst = some d) (hg : wantE ops n E o = true) (h : Nyl P n o E mk obj)
    (hl : ∀ g, H0.size ≤ g → (∀ x ∈ N, x.g ≠ g) → Lex P n ops kd Ms H0 M0 K l (upd E d (mk g)) Hc M (⟨i, g, obj⟩ :: N)) : Lex P n ops kd Ms H0 M0 K (i :: l) E Hc M N := by
  intro o' ho'
  obtain rfl : o = o' := Option.some.inj (ho.symm.trans ho')
  refine ⟨fun h' => (by rw [hg] at h'; cases h'), fun _ => ?_⟩
  simp only [hk, hd]
  exact ⟨_, h.nyq, fun g v ob hq => by obtain ⟨rfl, rfl⟩ := hq; exact hl g⟩
/-- Behind an operation that has turned nothing that the region made. -/
theorem postOf {E : Env} {H H1 : Heap} (h : Keep M H H1 ∧ ∃ M', (∀ b ∈ M', (b ∈ M ∨ H.size ≤ b) ∧ b < H1.size) ∧ Lex P n ops kd Ms H0 M0 K l E H1 M' N) :
    ∃ G M' N', (∀ b ∈ G, H0.size ≤ b ∧ ∃ x ∈ N, x.g = b) ∧ Keep (G ++ M) H H1 ∧ (∀ b ∈ M', (b ∈ M ∨ b ∈ G ∨ H.size ≤ b) ∧ b < H1.size) ∧ (∀ x ∈ N', x ∈ N ∧ x.g ∉ G) ∧ Lex P n ops kd Ms H0 M0 K l E H1 M' N' := by
  obtain ⟨h1, M', h2, h3⟩ := h
  exact ⟨[], M', N, by simp, h1, fun b hb => ⟨(h2 b hb).1.elim .inl (fun h => .inr (.inr h)), (h2 b hb).2⟩, fun x hx => ⟨hx, by simp⟩, h3⟩
/-- What has been made ahead of this operation. -/
def Made (Ms : List Nat) (i : Nat) (N : List NF) (H : Heap) : Prop := ∀ x ∈ N, (nthN Ms i).testBit x.i = true → H[x.g]? = some x.o
theorem lexE (ho : ops[i]? = some o) (hk : nthK kd i = .e) (hd : o.dst = some d) (hg : wantE ops n E o = true)
    (h : ∀ H, Ext Hc H → Keep M0 H0 H → Made Ms i N H → Step P n o E H fun v H1 => Keep M H H1 ∧ ∃ M', (∀ b ∈ M', (b ∈ M ∨ H.size ≤ b) ∧ b < H1.size) ∧ Lex P n ops kd Ms H0 M0 K l (upd E d v) H1 M' N) :
    Lex P n ops kd Ms H0 M0 K (i :: l) E Hc M N := by
  intro o' ho'
  obtain rfl : o = o' := Option.some.inj (ho.symm.trans ho')
  refine ⟨fun h' => (by rw [hg] at h'; cases h'), fun _ => ?_⟩
  simp only [hk, hd]
  exact fun H hx hM hN => (h H hx.1 hM fun x hx hb => (hN x hx hb).1).mono fun _ _ h => postOf h
theorem lexE0 (hn : noN kd = true) (ho : ops[i]? = some o) (hk : nthK kd i = .e) (hd : o.dst = some d) (hg : wantE ops n E o = true)
    (h : Keep M0 H0 Hc → Step P n o E Hc fun v H1 => Keep M Hc H1 ∧ ∃ M', (∀ b ∈ M', (b ∈ M ∨ Hc.size ≤ b) ∧ b < H1.size) ∧ Lex P n ops kd Ms H0 M0 K l (upd E d v) H1 M' N) :
    Lex P n ops kd Ms H0 M0 K (i :: l) E Hc M N := by
  intro o' ho'
  obtain rfl : o = o' := Option.some.inj (ho.symm.trans ho')
  refine ⟨fun h' => (by rw [hg] at h'; cases h'), fun _ => ?_⟩
  simp only [hk, hd]
  intro H hx hM _
  obtain rfl := hx.2 hn
  exact (h hM).mono fun _ _ h => postOf h
/-- .. one that only adds to the heap. -/
theorem lexX (ho : ops[i]? = some o) (hk : nthK kd i = .e) (hd : o.dst = some d) (hg : wantE ops n E o = true) (hM : ∀ b ∈ M, b < Hc.size)
    (h : ∀ H, Ext Hc H → Keep M0 H0 H → Made Ms i N H → Step P n o E H fun v H1 => Ext H H1 ∧ (Ext H H1 → Lex P n ops kd Ms H0 M0 K l (upd E d v) H1 M N)) :
    Lex P n ops kd Ms H0 M0 K (i :: l) E Hc M N :=
  lexE ho hk hd hg fun H hx hK hN => (h H hx hK hN).mono fun _ _ ⟨he, hl⟩ => ⟨he.keep _, M, fun b hb => ⟨.inl hb, Nat.lt_of_lt_of_le (hM b hb) (Nat.le_trans hx.size he.size)⟩, hl he⟩
theorem lexX0 (hn : noN kd = true) (ho : ops[i]? = some o) (hk : nthK kd i = .e) (hd : o.dst = some d) (hg : wantE ops n E o = true) (hM : ∀ b ∈ M, b < Hc.size)
    (h : Keep M0 H0 Hc → Step P n o E Hc fun v H1 => Ext Hc H1 ∧ (Ext Hc H1 → Lex P n ops kd Ms H0 M0 K l (upd E d v) H1 M N)) :
    Lex P n ops kd Ms H0 M0 K (i :: l) E Hc M N :=
  lexE0 hn ho hk hd hg fun hK => (h hK).mono fun _ _ ⟨he, hl⟩ => ⟨he.keep _, M, fun b hb => ⟨.inl hb, Nat.lt_of_lt_of_le (hM b hb) he.size⟩, hl he⟩
/-- Behind a call inside a drawn region: the blocks of F are new, and nothing that the region makes lies there. -/
theorem lexFr {F : List Nat} {H H1 : Heap} (hx : Ext H H1) (hF : ∀ b ∈ F, H.size ≤ b ∧ b < H1.size) (hM : ∀ b ∈ M, b < H.size) (h : Lex P n ops kd Ms H0 M0 K l E H1 (F ++ M) N) : Keep M H H1 ∧ ∃ M', (∀ b ∈ M', (b ∈ M ∨ H.size ≤ b) ∧ b < H1.size) ∧ Lex P n ops kd Ms H0 M0 K l E H1 M' N :=
  ⟨hx.keep _, F ++ M, fun b hb => by
    rcases List.mem_append.1 hb with hb | hb
    · exact ⟨.inr (hF b hb).1, (hF b hb).2⟩
    · exact ⟨.inl hb, Nat.lt_of_lt_of_le (hM b hb) hx.size⟩, h⟩
end

/- CALLS -/
section
variable {P : Program} {n : Nat} {o : Oper} {E : Env} {H : Heap} {K : Value → Heap → Prop}
theorem stepCall {f : FuncId} {as : List Operand} {ts : Array TypeId} {args : List Value} (ho : o.op = .call { callee := .value (.func f), args := as.toArray, argTypes := ts })
    (hf : ∀ (args : Array Value) (w : World), (callFunc f args).run P w = .ok (.enter f args) w) (ha : evs n E as = args) (h : CallsH P f args H K) : Step P n o E H K := by
  intro w0 w hs hw
  have hr : (execOp (ev n E) o).run P w = .ok (.enter f args.toArray) w := by
    subst ha
    unfold execOp
    simp only [ho, resolve, ev, Deferred.ofValue, invoke, evs_map]
    simp [hf]
  rw [hr]
  exact (h w hw).mono fun e w' ⟨v, he, hs', hk⟩ => ⟨v, he, hs.trans hs', hk⟩

/-- What a body leaves: the results. -/
def Fin (P : Program) (n : Nat) (fn : Func) (R : Value → Heap → Prop) (E : Env) (H : Heap) : Prop := ∃ v, (∀ w : World, w.heap = H → (results fn (act n E).tmps).run P w = .ok v w) ∧ R v H
theorem callsH_of {f : FuncId} {fn : Func} {c : Code} {args : List Value} {R : Value → Heap → Prop} (hf : P.funcs[f]? = some fn) (hb : fn.body = some c) (hn : fn.ntmps = n) (hl : args.length ≤ n)
    (h : WP P n c (Fin P n fn R) (Fin P n fn R) (fun _ _ _ => False) (nth args) H) : CallsH P f args H R := by
  intro w hw
  refine calls_of_wp hf hb ?_
  have ha : ({ tmps := args.toArray ++ Array.replicate (fn.ntmps - args.toArray.size) undef, defers := [] } : Act) = act n (nth args) := by
    subst hn
    unfold act
    congr 1
    apply Array.ext
    · simp; omega
    · intro i h1 h2
      have key : ∀ (l : List Value) (i : Nat), nth l i = l.getD i undef := by
        intro l
        induction l with
        | nil => intro i; simp [nth]
        | cons v l ih => intro i; cases i with
          | zero => simp [nth]
          | succ i => simp [nth, ih]
      simp only [Array.getElem_ofFn, key, Array.getElem_append, Array.getElem_replicate, List.getElem_toArray, List.size_toArray]
      split
      · simp [List.getD, *]
      · rename_i h; simp [List.getD_eq_getElem?_getD, List.getElem?_eq_none (Nat.le_of_not_lt h)]
  rw [ha]
  refine Code.wp_mono ?_ (h w w (Same.refl w) hw)
  rintro e a w' ⟨hs, E', rfl, hq⟩
  cases e with
  | normal => obtain ⟨v, hr, hR⟩ := hq; exact ⟨rfl, v, hr w' rfl, v, rfl, hs, hR⟩
  | ret => obtain ⟨v, hr, hR⟩ := hq; exact ⟨rfl, v, hr w' rfl, v, rfl, hs, hR⟩
  | exit i => exact hq.elim
  | goto i => exact hq.elim
  | panic c => exact hq.elim
  | outgrown => exact hq.elim

variable {fn : Func} {R : Value → Heap → Prop}
theorem getD_act (n : Nat) (E : Env) (t : Nat) : (act n E).tmps.getD t undef = ev n E (.tmp t) := by
  have := congrFun (act_eval n E) (.tmp t)
  exact this
theorem fin0 (hr : fn.results = #[]) (h : R (.tuple #[]) H) : Fin P n fn R E H := ⟨_, fun w _ => by simp [results, hr], h⟩
theorem fin1 {t : Nat} {v : Value} (hr : fn.results = #[.tmp t]) (hv : ev n E (.tmp t) = v) (h : R v H) : Fin P n fn R E H := ⟨v, fun w _ => by simp only [results_tmp hr, getD_act, hv], h⟩
theorem fin2 {t u : Nat} {v v' : Value} (hr : fn.results = #[.tmp t, .tmp u]) (hv : ev n E (.tmp t) = v) (hv' : ev n E (.tmp u) = v') (h : R (.tuple #[v, v']) H) : Fin P n fn R E H :=
  ⟨_, fun w _ => by rw [results_tmp2 hr]; simp only [getD_act, hv, hv'], h⟩
theorem fin3 {t u s : Nat} {v v' v'' : Value} (hr : fn.results = #[.tmp t, .tmp u, .tmp s]) (hv : ev n E (.tmp t) = v) (hv' : ev n E (.tmp u) = v') (hv'' : ev n E (.tmp s) = v'') (h : R (.tuple #[v, v', v'']) H) : Fin P n fn R E H :=
  ⟨.tuple #[v, v', v''], fun w _ => by
    have h1 : ∀ t, (act n E).tmps.getD t undef = ev n E (.tmp t) := getD_act n E
    simp [results, hr, h1, hv, hv', hv''], h⟩
end

/- THE OPERATIONS THAT LEAVE THE HEAP ALONE -/
section
variable {P : Program} {n : Nat} {o : Oper} {E : Env} {H : Heap} {v : Value} {x y z : Operand} {T U yT : TypeId} {k k' : IntKind} {a b : Int} {p q r : Bool}
theorem yMove (ho : o.op = .move x) (hx : ev n E x = v) : Yld P n o E H v := fun w _ => by unfold execOp; simp only [ho, hx]; rfl
theorem yAssign (ho : o.op = .assign x) (hx : ev n E x = v) : Yld P n o E H v := fun w _ => by unfold execOp; simp only [ho, hx]; rfl
theorem yPickT (ho : o.op = .pick x y z) (hx : ev n E x = .bool true) (hy : ev n E y = v) : Yld P n o E H v := fun w _ => by unfold execOp; simp only [ho, hx, hy]; rfl
theorem yPickF (ho : o.op = .pick x y z) (hx : ev n E x = .bool false) (hz : ev n E z = v) : Yld P n o E H v := fun w _ => by unfold execOp; simp only [ho, hx, hz]; rfl
theorem yPick (ho : o.op = .pick x y z) (hx : ev n E x = .bool p) (hy : ev n E y = .bool q) (hz : ev n E z = .bool r) : Yld P n o E H (.bool (bif p then q else r)) := by
  cases p
  · exact yPickF ho hx hz
  · exact yPickT ho hx hy
theorem yNot (ho : o.op = .unOp .not T x) (hx : ev n E x = .bool p) : Yld P n o E H (.bool (!p)) := fun w _ => by unfold execOp; simp only [ho, hx]; rfl

theorem yBin {op : BinOp} (ho : o.op = .binOp op T x y yT) (hx : ev n E x = .int k a) (hy : ev n E y = .int k' b) (h : ∀ w, (binOp op T (.int k a) (.int k' b)).run P w = .ok v w) : Yld P n o E H v := fun w _ => by
  unfold execOp
  have hg : (eqGuard op T x y (.int k a) (.int k' b)).run P w = .ok () w := by
    unfold eqGuard
    cases op <;> simp
  simp only [ho, hx, hy]
  simp [hg, h]
theorem yLss (ho : o.op = .binOp .lss T x y yT) (hx : ev n E x = .int k a) (hy : ev n E y = .int k b) : Yld P n o E H (.bool (decide (a < b))) := yBin ho hx hy fun w => by simp [binOp, Op.intCmp]
theorem yLeq (ho : o.op = .binOp .leq T x y yT) (hx : ev n E x = .int k a) (hy : ev n E y = .int k b) : Yld P n o E H (.bool (decide (a ≤ b))) := yBin ho hx hy fun w => by simp [binOp, Op.intCmp]
theorem yGtr (ho : o.op = .binOp .gtr T x y yT) (hx : ev n E x = .int k a) (hy : ev n E y = .int k b) : Yld P n o E H (.bool (decide (b < a))) := yBin ho hx hy fun w => by simp [binOp, Op.intCmp]
theorem yGeq (ho : o.op = .binOp .geq T x y yT) (hx : ev n E x = .int k a) (hy : ev n E y = .int k b) : Yld P n o E H (.bool (decide (b ≤ a))) := yBin ho hx hy fun w => by simp [binOp, Op.intCmp]
theorem yEql (ho : o.op = .binOp .eql T x y yT) (hx : ev n E x = .int k a) (hy : ev n E y = .int k b) : Yld P n o E H (.bool (decide (a = b))) := yBin ho hx hy fun w => by
  have : (a == b) = decide (a = b) := by rw [Bool.eq_iff_iff]; simp
  simp [binOp, Op.intCmp, this]
theorem yNeq (ho : o.op = .binOp .neq T x y yT) (hx : ev n E x = .int k a) (hy : ev n E y = .int k b) : Yld P n o E H (.bool (!decide (a = b))) := yBin ho hx hy fun w => by
  have : (a != b) = !decide (a = b) := by rw [Bool.eq_iff_iff]; simp
  simp [binOp, Op.intCmp, this]
theorem run_equalB (w : World) (hT : P.underlying T = some .bool) : (Op.equal T (.bool p) (.bool q)).run P w = .ok (p == q) w := by
  have h : ∀ d : Nat, (Op.equalIn (d + 1) T (.bool p) (.bool q)).run P w = .ok (p == q) w := fun d => by simp [Op.equalIn, run_underlying hT]
  simp only [Op.equal, Op.maxDepth]
  exact h 9999
theorem yEqlB (ho : o.op = .binOp .eql T x y yT) (hT : P.underlying T = some .bool) (hx : ev n E x = .bool p) (hy : ev n E y = .bool q) : Yld P n o E H (.bool (p == q)) := fun w _ => by
  have hg : (eqGuard .eql T x y (.bool p) (.bool q)).run P w = .ok () w := by simp [eqGuard]
  have hb : (binOp .eql T (.bool p) (.bool q)).run P w = .ok (.bool (p == q)) w := by simp only [binOp]; simp [run_equalB w hT]
  unfold execOp
  simp only [ho, hx, hy]
  simp [hg, hb]
theorem yNeqB (ho : o.op = .binOp .neq T x y yT) (hT : P.underlying T = some .bool) (hx : ev n E x = .bool p) (hy : ev n E y = .bool q) : Yld P n o E H (.bool (!(p == q))) := fun w _ => by
  have hg : (eqGuard .neq T x y (.bool p) (.bool q)).run P w = .ok () w := by simp [eqGuard]
  have hb : (binOp .neq T (.bool p) (.bool q)).run P w = .ok (.bool (!(p == q))) w := by simp only [binOp]; simp [run_equalB w hT]
  unfold execOp
  simp only [ho, hx, hy]
  simp [hg, hb]
/-- In range of an int. -/
def In64 (n : Int) : Prop := -9223372036854775808 ≤ n ∧ n ≤ 9223372036854775807
theorem In64.wrap {n : Int} (h : In64 n) : IntKind.i64.wrap n = n := IntWalk.i64_in n h
theorem yAdd (ho : o.op = .binOp .add T x y yT) (hx : ev n E x = .int .i64 a) (hy : ev n E y = .int .i64 b) (h : In64 (a + b)) : Yld P n o E H (.int .i64 (a + b)) := yBin ho hx hy fun w => by simp [binOp, Op.intArith, h.wrap]
theorem ySub (ho : o.op = .binOp .sub T x y yT) (hx : ev n E x = .int .i64 a) (hy : ev n E y = .int .i64 b) (h : In64 (a - b)) : Yld P n o E H (.int .i64 (a - b)) := yBin ho hx hy fun w => by simp [binOp, Op.intArith, h.wrap]
theorem yMul (ho : o.op = .binOp .mul T x y yT) (hx : ev n E x = .int .i64 a) (hy : ev n E y = .int .i64 b) (h : In64 (a * b)) : Yld P n o E H (.int .i64 (a * b)) := yBin ho hx hy fun w => by simp [binOp, Op.intArith, h.wrap]
theorem yRem (ho : o.op = .binOp .rem T x y yT) (hx : ev n E x = .int k a) (hy : ev n E y = .int k b) (h : 0 ≤ a ∧ 0 < b) : Yld P n o E H (.int k (a % b)) := yBin ho hx hy fun w => by
  have hb : b ≠ 0 := by omega
  simp [binOp, Op.intDiv, hb, Int.tmod_eq_emod_of_nonneg h.1]
theorem yQuo (ho : o.op = .binOp .quo T x y yT) (hx : ev n E x = .int .i64 a) (hy : ev n E y = .int .i64 b) (h : 0 ≤ a ∧ 0 < b ∧ a ≤ 9223372036854775807) : Yld P n o E H (.int .i64 (a / b)) := yBin ho hx hy fun w => by
  have hb : b ≠ 0 := by omega
  simp [binOp, Op.intDiv, hb, IntWalk.i64_quo a b ⟨h.1, h.2.2, by omega⟩]
theorem yNeg (ho : o.op = .unOp .neg T x) (hx : ev n E x = .int .i64 a) (h : In64 (-a)) : Yld P n o E H (.int .i64 (-a)) := fun w _ => by
  unfold execOp
  simp only [ho, hx]
  simp [Op.unary, Op.intArith, h.wrap]
/-- A conversion from int kind to int kind, the number fits. -/
theorem yConv (ho : o.op = .convert T U x) {dT : TypeDesc} (hT : P.underlying T = some dT) (hU : P.underlying U = some (.int k')) (hx : ev n E x = .int k a) (h : k'.wrap a = b) : Yld P n o E H (.int k' b) := fun w _ => by
  unfold execOp
  simp only [ho, hx]
  simp [convert, run_underlying hT, run_underlying hU, Conv.intToInt, h]
theorem yExtract {vs : List Value} {j : Nat} (ho : o.op = .extract x j) (hx : ev n E x = .tuple vs.toArray) (hv : vs[j]? = some v) : Yld P n o E H v := fun w _ => by
  unfold execOp
  simp only [ho, hx]
  simp [Instr.extract, hv]
theorem yLen {t : TypeId} {A : Option Addr} {m c : Nat} {e : TypeId} (ho : o.op = .call { callee := .builtin .len, args := #[x], argTypes := #[t] }) (ht : P.underlying t = some (.slice e)) (hx : ev n E x = .slice A m c) : Yld P n o E H (.int .i64 (m : Int)) := fun w _ => by
  unfold execOp
  simp only [ho]
  simp [resolve, invoke, builtin, Builtin.len_, hx, run_underlying ht, goInt]
theorem yLenS {t : TypeId} {s : ByteArray} (ho : o.op = .call { callee := .builtin .len, args := #[x], argTypes := #[t] }) (ht : P.underlying t = some .string) (hx : ev n E x = .string s) : Yld P n o E H (.int .i64 (s.size : Int)) := fun w _ => by
  unfold execOp
  simp only [ho]
  simp [resolve, invoke, builtin, Builtin.len_, hx, run_underlying ht, goInt]
theorem yMin {ts : Array TypeId} (ho : o.op = .call { callee := .builtin .min, args := #[x, y], argTypes := ts }) (hx : ev n E x = .int k a) (hy : ev n E y = .int k b) : Yld P n o E H (.int k (min a b)) := fun w _ => by
  unfold execOp
  simp only [ho]
  have : min a b = if b < a then b else a := by split <;> omega
  simp [resolve, invoke, builtin, Builtin.min_, Builtin.min2, hx, hy, this]
theorem yMax {ts : Array TypeId} (ho : o.op = .call { callee := .builtin .max, args := #[x, y], argTypes := ts }) (hx : ev n E x = .int k a) (hy : ev n E y = .int k b) : Yld P n o E H (.int k (max a b)) := fun w _ => by
  unfold execOp
  simp only [ho]
  have : max a b = if a < b then b else a := by split <;> omega
  simp [resolve, invoke, builtin, Builtin.max_, Builtin.max2, hx, hy, this]
end
end Go.Proofs.Ytcfnmklbkhibgaa
