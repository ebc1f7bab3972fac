/- The walker, part 11: append to a slice that the region has made; slices of ints that a call hands out. Nothing of the program. -/
import Derived.Test.YtcfnmklbkhibgaaLJ
namespace Go.Proofs.Ytcfnmklbkhibgaa
open Go.RowKit

section
variable {P : Program} {n : Nat} {ops : List Oper} {kd : List Kd} {Ms : List Nat} {H0 : Heap} {M0 : List Nat} {K : Env → Heap → Prop} {i d : Nat} {l : List Nat} {o : Oper} {E : Env} {Hc : Heap} {M : List Nat}
/-- An operation that turns a block that the region has made: from here on the block is like any other that may turn. -/
theorem lexEG {x : NF} {N2 : List NF} (ho : ops[i]? = some o) (hk : nthK kd i = .e) (hd : o.dst = some d) (hg : wantE ops n E o = true) (hg0 : H0.size ≤ x.g) (hb : (nthN Ms i).testBit x.i = true) (h2 : ∀ z ∈ N2, z.g ≠ x.g)
    (h : ∀ H, Ext Hc H → Keep M0 H0 H → H[x.g]? = some x.o → x.g ∉ M → Step P n o E H fun v H1 => Keep [x.g] H H1 ∧ (∀ b ∈ M, b < H.size) ∧ ∃ F : List Nat, (∀ b ∈ F, (b = x.g ∨ H.size ≤ b) ∧ b < H1.size) ∧ Lex P n ops kd Ms H0 M0 K l (upd E d v) H1 (F ++ x.g :: M) N2) :
    Lex P n ops kd Ms H0 M0 K (i :: l) E Hc M (x :: N2) := by
  intro o' ho'
  obtain rfl : o = o' := Option.some.inj (ho.symm.trans ho')
  refine ⟨fun h' => (by rw [hg] at h'; cases h'), fun _ => ?_⟩
  simp only [hk, hd]
  intro H hx hM hN
  have hx0 := hN x (by simp) hb
  refine (h H hx.1 hM hx0.1 hx0.2).mono ?_
  rintro v H1 ⟨hkeep, hlt, F, hF, hl⟩
  have hgl : x.g < H.size := (Array.getElem?_eq_some_iff.1 hx0.1).1
  refine ⟨[x.g], F ++ x.g :: M, N2, fun b hb => ?_, hkeep.mono (by simp), fun b hb => ?_, fun z hz => ⟨by simp [hz], by simpa using h2 z hz⟩, hl⟩
  · simp at hb
    subst hb
    exact ⟨hg0, x, by simp, rfl⟩
  · rcases List.mem_append.1 hb with hb | hb
    · rcases hF b hb with ⟨rfl | h1, h3⟩
      · exact ⟨.inr (.inl (by simp)), h3⟩
      · exact ⟨.inr (.inr h1), h3⟩
    · rcases List.mem_cons.1 hb with rfl | hb
      · exact ⟨.inr (.inl (by simp)), Nat.lt_of_lt_of_le hgl hkeep.size⟩
      · exact ⟨.inl hb, Nat.lt_of_lt_of_le (hlt b hb) hkeep.size⟩
/-- .. an append to a slice without room. -/
theorem lexApp {x : NF} {N2 : List NF} {v v' : Value} {H H1 : Heap} (hv : v.ownBlock = some x.g) (hg : Grew H v H1 v') (hM : ∀ b ∈ M, b < H.size) (hlt : ∀ g, v'.ownBlock = some g → g < H1.size) (h : Lex P n ops kd Ms H0 M0 K l E H1 (v'.ownBlock.toList ++ x.g :: M) N2) :
    Keep [x.g] H H1 ∧ (∀ b ∈ M, b < H.size) ∧ ∃ F : List Nat, (∀ b ∈ F, (b = x.g ∨ H.size ≤ b) ∧ b < H1.size) ∧ Lex P n ops kd Ms H0 M0 K l E H1 (F ++ x.g :: M) N2 := by
  refine ⟨?_, hM, _, fun b hb => ?_, h⟩
  · have := hg.1
    rwa [hv] at this
  · rw [Option.mem_toList] at hb
    refine ⟨?_, hlt b hb⟩
    rcases hg.2 b hb with h1 | h1
    · rw [hv] at h1
      exact .inl (Option.some.inj h1).symm
    · exact .inr h1
/-- A load that the region does in the text's order. -/
theorem stepY {v : Value} {H : Heap} {R : Value → Heap → Prop} (h : Yld P n o E H v) (hr : R v H) : Step P n o E H R := fun w0 w hs hw => by
  rw [h w hw]
  exact ⟨hs, by rw [hw]; exact hr⟩
theorem lexY0 {v : Value} {N : List NF} (hn : noN kd = true) (ho : ops[i]? = some o) (hk : nthK kd i = .e) (hd : o.dst = some d) (hg : wantE ops n E o = true) (hM : ∀ b ∈ M, b < Hc.size) (h : Keep M0 H0 Hc → Yld P n o E Hc v)
    (hl : Lex P n ops kd Ms H0 M0 K l (upd E d v) Hc M N) : Lex P n ops kd Ms H0 M0 K (i :: l) E Hc M N :=
  lexE0 hn ho hk hd hg fun hK => stepY (h hK) ⟨Keep.refl _ _, M, fun b hb => ⟨.inl hb, hM b hb⟩, hl⟩
end
section
variable {P : Program} {n : Nat} {o : Oper} {E : Env} {H : Heap} {x y : Operand} {T yT : TypeId} {a b c : Int}
theorem yAddE (ho : o.op = .binOp .add T x y yT) (hx : ev n E x = .int .i64 a) (hy : ev n E y = .int .i64 b) (h : In64 (a + b)) (e : a + b = c) : Yld P n o E H (.int .i64 c) := e ▸ yAdd ho hx hy h
theorem ySubE (ho : o.op = .binOp .sub T x y yT) (hx : ev n E x = .int .i64 a) (hy : ev n E y = .int .i64 b) (h : In64 (a - b)) (e : a - b = c) : Yld P n o E H (.int .i64 c) := e ▸ ySub ho hx hy h
theorem yMulE (ho : o.op = .binOp .mul T x y yT) (hx : ev n E x = .int .i64 a) (hy : ev n E y = .int .i64 b) (h : In64 (a * b)) (e : a * b = c) : Yld P n o E H (.int .i64 c) := e ▸ yMul ho hx hy h
theorem yNegE (ho : o.op = .unOp .neg T x) (hx : ev n E x = .int .i64 a) (h : In64 (-a)) (e : -a = c) : Yld P n o E H (.int .i64 c) := e ▸ yNeg ho hx h
end
end Go.Proofs.Ytcfnmklbkhibgaa
