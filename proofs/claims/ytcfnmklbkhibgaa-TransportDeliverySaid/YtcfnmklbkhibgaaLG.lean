/- The walker, part 7: loops by their state, guards, more operations. Nothing of the program. -/
import Derived.Test.YtcfnmklbkhibgaaLF
import Derived.WalkSpells
namespace Go.Proofs.Ytcfnmklbkhibgaa
open Go.RowKit

/- LOOPS -/
def memN : List Nat → Nat → Bool
  | [], _ => false
  | i :: l, j => Nat.beq j i || memN l j
/-- The frame E, but for the slots of W, which are as in J. -/
def over (W : List Nat) (J E : Env) : Env := fun j => bif memN W j then J j else E j
@[reducible] def updL : Env → List (Nat × Value) → Env
  | E, [] => E
  | E, (i, v) :: l => updL (upd E i v) l
def SatL : Env → List (Nat × Value) → Prop
  | _, [] => True
  | E, (i, v) :: l => E i = v ∧ SatL E l
def Agree (W : List Nat) (E E' : Env) : Prop := ∀ j, memN W j = false → E' j = E j
theorem Agree.refl (W : List Nat) (E : Env) : Agree W E E := fun _ _ => rfl
theorem Agree.upd {W : List Nat} {E E' : Env} {i : Nat} {v : Value} (h : Agree W E E') (hi : memN W i = true) : Agree W E (upd E' i v) := fun j hj => by
  rw [upd_ne _ (fun e => by subst e; rw [hi] at hj; cases hj)]
  exact h j hj
theorem memN_of {W W2 : List Nat} (hW : W2.all (memN W) = true) {j : Nat} (h : memN W2 j = true) : memN W j = true := by
  induction W2 with
  | nil => simp [memN] at h
  | cons i l ih =>
    simp only [List.all_cons, Bool.and_eq_true] at hW
    simp only [memN, Bool.or_eq_true, Nat.beq_eq] at h
    rcases h with h | h
    · rw [h]; exact hW.1
    · exact ih hW.2 h
theorem Agree.over {W W2 : List Nat} {E E' J : Env} (h : Agree W E E') (hW : W2.all (memN W) = true) : Agree W E (over W2 J E') := fun j hj => by
  unfold Proofs.Ytcfnmklbkhibgaa.over
  cases h2 : memN W2 j
  · exact h j hj
  · rw [memN_of hW h2] at hj; cases hj
theorem SatL.eta : ∀ (l : List (Nat × Value)) (E : Env), SatL E l → E = updL E l
  | [], _, _ => rfl
  | (i, v) :: l, E, ⟨h, hl⟩ => by
    show E = updL (Proofs.Ytcfnmklbkhibgaa.upd E i v) l
    rw [← upd_eta h]
    exact SatL.eta l E hl
theorem Agree.eta {W : List Nat} {E E' : Env} (h : Agree W E E') : E' = Proofs.Ytcfnmklbkhibgaa.over W E' E := by
  funext j
  unfold Proofs.Ytcfnmklbkhibgaa.over
  cases h2 : memN W j
  · exact h j h2
  · rfl

section
variable {P : Program} {n : Nat} {N R : Env → Heap → Prop} {X : Nat → Env → Heap → Prop} {E : Env} {H : Heap} {c : Code}
/-- What a round of a loop leaves: the slots of W alone have turned; a state with a smaller measure. -/
def LoopEnd {α : Type} (W : List Nat) (S : α → List (Nat × Value)) (I : α → Heap → Prop) (μ : α → Nat) (E : Env) (x : α) (E' : Env) (H' : Heap) : Prop := Agree W E E' ∧ ∃ x', μ x' < μ x ∧ SatL E' (S x') ∧ I x' H'
/-- A loop: x is its state, S x the slots at its head, I x what holds, μ x falls. W: the slots that its body writes. -/
theorem wpLoopS {α : Type} (W : List Nat) (S : α → List (Nat × Value)) (I : α → Heap → Prop) (μ : α → Nat) (x0 : α) (hS : SatL E (S x0)) (hI : I x0 H)
    (round : ∀ (x : α) (J : Env) (H : Heap), I x H → WP P n c (LoopEnd W S I μ E x) R X (updL (over W J E) (S x)) H) : WP P n (.loop c) N R X E H := by
  refine wpLoop (fun m E' H' => Agree W E E' ∧ ∃ x, μ x = m ∧ SatL E' (S x) ∧ I x H') (m := μ x0) ⟨Agree.refl _ _, x0, rfl, hS, hI⟩ ?_
  rintro m E' H' ⟨ha, x, rfl, hs, hi⟩
  have h := round x E' H' hi
  have e1 : over W E' E = E' := ha.eta.symm
  rw [e1, ← hs.eta] at h
  intro w0 w hw he
  refine Code.wp_mono ?_ (h w0 w hw he)
  rintro e a w1 ⟨h1, E1, rfl, h2⟩
  refine ⟨h1, E1, rfl, ?_⟩
  cases e with
  | normal => obtain ⟨h3, x', h4, h5, h6⟩ := h2; exact ⟨_, h4, h3, x', rfl, h5, h6⟩
  | ret => exact h2
  | exit i => exact h2
  | goto i => exact h2
  | panic c => exact h2
  | outgrown => exact h2
theorem loopEnd {α : Type} {W : List Nat} {S : α → List (Nat × Value)} {I : α → Heap → Prop} {μ : α → Nat} {E : Env} {x : α} {E' : Env} {H' : Heap} (x' : α) (ha : Agree W E E') (hm : μ x' < μ x) (hs : SatL E' (S x')) (hi : I x' H') :
    LoopEnd W S I μ E x E' H' := ⟨ha, x', hm, hs, hi⟩
/-- Two ways that meet again. -/
theorem wpCut {x y : Code} (I : Env → Heap → Prop) (h : WP P n x I R X E H) (hy : ∀ E' H', I E' H' → WP P n y N R X E' H') : WP P n (.seq x y) N R X E H :=
  wpSeq fun F hF => by
    intro w0 w hw he
    refine Code.wp_mono ?_ (h w0 w hw he)
    rintro e a w1 ⟨h1, E1, rfl, h2⟩
    refine ⟨h1, E1, rfl, ?_⟩
    cases e with
    | normal => exact hF _ _ (hy _ _ h2)
    | ret => exact h2
    | exit i => exact h2
    | goto i => exact h2
    | panic c => exact h2
    | outgrown => exact h2
/-- .. by their state, as a loop's. -/
theorem wpCutS {x y : Code} {α : Type} (W : List Nat) (S : α → List (Nat × Value)) (I : α → Heap → Prop) (h : WP P n x (fun E' H' => Agree W E E' ∧ ∃ z, SatL E' (S z) ∧ I z H') R X E H)
    (hy : ∀ (z : α) (J : Env) (H' : Heap), I z H' → WP P n y N R X (updL (over W J E) (S z)) H') : WP P n (.seq x y) N R X E H :=
  wpCut _ h fun E' H' ⟨ha, z, hs, hi⟩ => by
    have h := hy z E' H' hi
    rwa [ha.eta.symm, ← hs.eta] at h
end

/- GUARDS -/
section
variable {P : Program} {n : Nat} {ops : List Oper} {K : Env → Heap → Prop} {l : List Oper} {o : Oper} {E : Env} {H : Heap} {d : Nat} {x : Operand} {p : Prop} [Decidable p] {b : Bool}
theorem seqGB (hd : o.dst = some d) (hg : wantE ops n E o = true) (ho : o.op = .move x) (hx : ev n E x = .bool b) (ht : b = true → Seq P n ops K l (upd E d (.bool true)) H) (hf : b = false → Seq P n ops K l (upd E d (.bool false)) H) : Seq P n ops K (o :: l) E H := by
  cases b
  · exact seqQ hd hg (yMove ho hx) (hf rfl)
  · exact seqQ hd hg (yMove ho hx) (ht rfl)
theorem seqG (hd : o.dst = some d) (hg : wantE ops n E o = true) (ho : o.op = .move x) (hx : ev n E x = .bool (decide p)) (ht : p → Seq P n ops K l (upd E d (.bool true)) H) (hf : ¬ p → Seq P n ops K l (upd E d (.bool false)) H) : Seq P n ops K (o :: l) E H :=
  seqGB hd hg ho hx (fun h => ht (of_decide_eq_true h)) (fun h => hf (of_decide_eq_false h))
variable {kd : List Kd} {Ms : List Nat} {H0 : Heap} {M0 : List Nat} {i : Nat} {L : List Nat} {Hc : Heap} {M : List Nat} {N : List NF}
theorem lexGB (ho : ops[i]? = some o) (hk : nthK kd i = .q) (hd : o.dst = some d) (hg : wantE ops n E o = true) (hop : o.op = .move x) (hx : ev n E x = .bool b) (ht : b = true → Lex P n ops kd Ms H0 M0 K L (upd E d (.bool true)) Hc M N) (hf : b = false → Lex P n ops kd Ms H0 M0 K L (upd E d (.bool false)) Hc M N) :
    Lex P n ops kd Ms H0 M0 K (i :: L) E Hc M N := by
  cases b
  · exact lexQ ho hk hd hg (fun _ _ => yMove hop hx) (hf rfl)
  · exact lexQ ho hk hd hg (fun _ _ => yMove hop hx) (ht rfl)
theorem lexG (ho : ops[i]? = some o) (hk : nthK kd i = .q) (hd : o.dst = some d) (hg : wantE ops n E o = true) (hop : o.op = .move x) (hx : ev n E x = .bool (decide p)) (ht : p → Lex P n ops kd Ms H0 M0 K L (upd E d (.bool true)) Hc M N) (hf : ¬ p → Lex P n ops kd Ms H0 M0 K L (upd E d (.bool false)) Hc M N) :
    Lex P n ops kd Ms H0 M0 K (i :: L) E Hc M N := lexGB ho hk hd hg hop hx (fun h => ht (of_decide_eq_true h)) (fun h => hf (of_decide_eq_false h))
theorem lexNB {mk : Addr → Value} {cs : List Value} {T : TypeId} (ho : ops[i]? = some o) (hk : nthK kd i = .n) (hd : o.dst = some d) (hg : wantE ops n E o = true) (h : NBlk P n o E mk cs T)
    (hl : ∀ g, H0.size ≤ g → (∀ x ∈ N, x.g ≠ g) → Lex P n ops kd Ms H0 M0 K L (upd E d (mk ⟨g, 0, none⟩)) Hc M (⟨i, g, .cells cs.toArray T (0, 0)⟩ :: N)) : Lex P n ops kd Ms H0 M0 K (i :: L) E Hc M N := lexN ho hk hd hg h hl
theorem Made.blk {j g : Nat} {cs : List Value} {T : TypeId} {H : Heap} (h : Made Ms i N H) (hm : (⟨j, g, .cells cs.toArray T (0, 0)⟩ : NF) ∈ N) (hb : (nthN Ms i).testBit j = true) : Blk H g cs T := h _ hm hb
end

theorem NF.blk {N : List NF} (i : Nat) {g : Nat} {cs : List Value} {T : TypeId} {H : Heap} (h : ∀ x ∈ N, H[x.g]? = some x.o) (hm : (⟨i, g, .cells cs.toArray T (0, 0)⟩ : NF) ∈ N) : Blk H g cs T := h _ hm

/- OWN MEMORY AND FRAMES -/
section
variable {P : Program} {n : Nat} {ops : List Oper} {kd : List Kd} {Ms : List Nat} {H0 : Heap} {M0 : List Nat} {K : Env → Heap → Prop} {L : List Nat} {E : Env} {H H' : Heap} {M : List Nat} {N : List NF} {v v' : Value}
/-- Behind an append inside a drawn region. -/
theorem lexGrew (hg : Grew H v H' v') (hv : ∀ g, v.ownBlock = some g → g ∈ M) (hM : ∀ b ∈ M, b < H.size) (hlt : ∀ g, v'.ownBlock = some g → g < H'.size) (h : Lex P n ops kd Ms H0 M0 K L E H' (v'.ownBlock.toList ++ M) N) :
    Keep M H H' ∧ ∃ M', (∀ b ∈ M', (b ∈ M ∨ H.size ≤ b) ∧ b < H'.size) ∧ Lex P n ops kd Ms H0 M0 K L E H' M' N := by
  refine ⟨hg.1.mono (fun b hb => hv b (by rw [Option.mem_toList] at hb; exact hb)), _, fun b hb => ?_, h⟩
  rcases List.mem_append.1 hb with hb | hb
  · rw [Option.mem_toList] at hb
    refine ⟨?_, hlt b hb⟩
    rcases hg.2 b hb with h | h
    · exact .inl (hv b h)
    · exact .inr h
  · exact ⟨.inl hb, Nat.lt_of_lt_of_le (hM b hb) hg.1.size⟩
end
/-- Two values that own no block in common. -/
def Apart (v u : Value) : Prop := ∀ g, v.ownBlock = some g → u.ownBlock ≠ some g
theorem Apart.symm {v u : Value} (h : Apart v u) : Apart u v := fun g hg hv => h g hv hg
theorem Apart.nil (v : Value) (n c : Nat) : Apart v (.slice none n c) := fun _ _ h => by cases h
/-- Another slice of the call's own, behind an append. -/
theorem Own.grew {α : Type} {c : El α} {e : TypeId} {H H' : Heap} {base : Nat} {v v' u : Value} {l : List α} (h : Own c e H base u l) (hg : Grew H v H' v') (ha : Apart v u) : Own c e H' base u l :=
  h.keep hg.1 fun g hu hm => by rw [Option.mem_toList] at hm; exact ha g hm hu
theorem Apart.grew {α : Type} {c : El α} {e : TypeId} {H H' : Heap} {base : Nat} {v v' u : Value} {l : List α} (ha : Apart v u) (hu : Own c e H base u l) (hg : Grew H v H' v') : Apart v' u := fun g hg' hu' => by
  rcases hg.2 g hg' with h | h
  · exact ha g h hu'
  · have := (hu.lt g hu').2; omega

section
variable {H0 H H' : Heap} {M : List Nat}
theorem Ext.mine (h : Ext H0 H) (k : Keep M H H') (hM : ∀ b ∈ M, H0.size ≤ b) : Ext H0 H' :=
  ⟨Nat.le_trans h.size k.size, fun b hb => (k.at_ b (Nat.lt_of_lt_of_le hb h.size) fun hm => absurd (hM b hm) (by omega)).trans (h.at_ b hb)⟩
end

/-- A slice that a composite literal has made reads as its elements. -/
theorem Blk.rd {α : Type} {c : El α} {H : Heap} {g : Nat} {e : TypeId} {l : List α} (hB : Blk H g (l.flatMap c.F) e) : Rd c H (some ⟨g, 0, none⟩) l := fun _ => ⟨_, rfl, fun _ _ hu => hB.cell hu⟩

section
variable {P : Program} {n : Nat} {o : Oper} {E : Env} {H : Heap} {v : Value} {x y : Operand} {T U yT : TypeId} {k k' : IntKind} {a b : Int}
theorem yMakeFunc {f : FuncId} {first captured : List Operand} {vs us : List Value} (ho : o.op = .makeFunc (.func f) first.toArray captured.toArray) (h1 : evs n E first = vs) (h2 : evs n E captured = us) : Yld P n o E H (.func (.func f) vs.toArray us.toArray) := fun w _ => by
  subst h1; subst h2
  unfold execOp
  simp only [ho]
  simp [Instr.makeFunc, evs_map]
theorem yEqlNil {e : TypeId} {A : Option Addr} {m c m' c' : Nat} (ho : o.op = .binOp .eql T x y yT) (hT : P.underlying T = some (.slice e)) (hx : ev n E x = .slice A m c) (hy : ev n E y = .slice none m' c') : Yld P n o E H (.bool A.isNone) := fun w _ => by
  have hg : (eqGuard .eql T x y (.slice A m c) (.slice none m' c')).run P w = .ok () w := by simp [eqGuard]
  unfold execOp
  simp only [ho, hx, hy]
  simp [hg, Lib.run_eql_slice_nil w T e A m c m' c' hT]
theorem yNeqNil {e : TypeId} {A : Option Addr} {m c m' c' : Nat} (ho : o.op = .binOp .neq T x y yT) (hT : P.underlying T = some (.slice e)) (hx : ev n E x = .slice A m c) (hy : ev n E y = .slice none m' c') : Yld P n o E H (.bool (!A.isNone)) := fun w _ => by
  have hg : (eqGuard .neq T x y (.slice A m c) (.slice none m' c')).run P w = .ok () w := by simp [eqGuard]
  unfold execOp
  simp only [ho, hx, hy]
  simp [hg, run_neq_slice_nil_any w T e A m c m' c' hT]
theorem toList_inj {s t : ByteArray} : (s.toList == t.toList) = decide (s = t) := by
  rw [Bool.eq_iff_iff, beq_iff_eq, decide_eq_true_iff, ByteArray.toList_eq, ByteArray.toList_eq]
  constructor
  · intro h; cases s; cases t; congr 1; exact Array.ext' h
  · intro h; rw [h]
theorem yEqlS {s t : ByteArray} (ho : o.op = .binOp .eql T x y yT) (hx : ev n E x = .string s) (hy : ev n E y = .string t) : Yld P n o E H (.bool (decide (s = t))) := fun w _ => by
  have hg : (eqGuard .eql T x y (.string s) (.string t)).run P w = .ok () w := by simp [eqGuard]
  unfold execOp
  simp only [ho, hx, hy]
  simp [hg, binOp, Op.stringOp, toList_inj]
theorem yNeqS {s t : ByteArray} (ho : o.op = .binOp .neq T x y yT) (hx : ev n E x = .string s) (hy : ev n E y = .string t) : Yld P n o E H (.bool (!decide (s = t))) := fun w _ => by
  have hg : (eqGuard .neq T x y (.string s) (.string t)).run P w = .ok () w := by simp [eqGuard]
  unfold execOp
  simp only [ho, hx, hy]
  simp [hg, binOp, Op.stringOp, toList_inj]

/-- x[lo:hi] of a slice. -/
theorem ySliceLH {e : TypeId} {A : Option Addr} {len cap l h s : Nat} {lo hi : Operand} {kl kh : IntKind} {zl zh : Int} (ho : o.op = .slice T x (some lo) (some hi) none) (hT : P.underlying T = some (.slice e)) (hs : ∀ w, (sizeOf e).run P w = .ok s w) (hx : ev n E x = .slice A len cap)
    (hl : ev n E lo = .int kl zl) (hh : ev n E hi = .int kh zh) (el : zl = (l : Int)) (eh : zh = (h : Int)) (h1 : l ≤ h) (h2 : h ≤ cap) : Yld P n o E H (.slice (if cap = l then A else A.map (·.add (l * s))) (h - l) (cap - l)) := fun w _ => by
  subst el; subst eh
  have b1 : (Instr.sliceBound (.int kh (h : Int)) cap .sliceAcap).run P w = .ok h w := by simp [Instr.sliceBound, asIntOf]; omega
  have b2 : (Instr.sliceBound (.int kl (l : Int)) h .sliceB).run P w = .ok l w := by simp [Instr.sliceBound, asIntOf]; omega
  have hb : (Instr.sliceBounds true len cap (some (.int kl (l : Int))) (some (.int kh (h : Int))) none).run P w = .ok (l, h, cap) w := by simp [Instr.sliceBounds, b1, b2]
  unfold execOp
  simp only [ho, hx]
  simp [Instr.sliceAt, run_underlying hT, Instr.slice, hl, hh, hb, hs]
theorem ySliceL {e : TypeId} {A : Option Addr} {len cap l s : Nat} {lo : Operand} {kl : IntKind} {zl : Int} (ho : o.op = .slice T x (some lo) none none) (hT : P.underlying T = some (.slice e)) (hs : ∀ w, (sizeOf e).run P w = .ok s w) (hx : ev n E x = .slice A len cap)
    (hl : ev n E lo = .int kl zl) (el : zl = (l : Int)) (h1 : l ≤ len) : Yld P n o E H (.slice (if cap = l then A else A.map (·.add (l * s))) (len - l) (cap - l)) := fun w _ => by
  subst el
  have b2 : (Instr.sliceBound (.int kl (l : Int)) len .sliceB).run P w = .ok l w := by simp [Instr.sliceBound, asIntOf]; omega
  have hb : (Instr.sliceBounds true len cap (some (.int kl (l : Int))) none none).run P w = .ok (l, len, cap) w := by simp [Instr.sliceBounds, b2]
  unfold execOp
  simp only [ho, hx]
  simp [Instr.sliceAt, run_underlying hT, Instr.slice, hl, hb, hs]
theorem ySliceH {e : TypeId} {A : Option Addr} {len cap h s : Nat} {hi : Operand} {kh : IntKind} {zh : Int} (ho : o.op = .slice T x none (some hi) none) (hT : P.underlying T = some (.slice e)) (hs : ∀ w, (sizeOf e).run P w = .ok s w) (hx : ev n E x = .slice A len cap)
    (hh : ev n E hi = .int kh zh) (eh : zh = (h : Int)) (h2 : h ≤ cap) : Yld P n o E H (.slice A h cap) := fun w _ => by
  subst eh
  have b1 : (Instr.sliceBound (.int kh (h : Int)) cap .sliceAcap).run P w = .ok h w := by simp [Instr.sliceBound, asIntOf]; omega
  have hb : (Instr.sliceBounds true len cap none (some (.int kh (h : Int))) none).run P w = .ok (0, h, cap) w := by simp [Instr.sliceBounds, b1]
  have e0 : ∀ a : Addr, a.add 0 = a := fun a => rfl
  have e1 : (if cap = 0 then A else A.map fun a => a.add 0) = A := by cases A <;> simp [e0]
  unfold execOp
  simp only [ho, hx]
  simp [Instr.sliceAt, run_underlying hT, Instr.slice, hh, hb, hs, e0]
/-- A byte of a string. -/
theorem yIndexS {s : ByteArray} {j : Nat} {m : Int} (ho : o.op = .index T x y) (hT : P.underlying T = some .string) (hx : ev n E x = .string s) (hy : ev n E y = .int k m) (hj : m = (j : Int)) (hl : j < s.size) : Yld P n o E H (.int .u8 (s[j].toNat : Int)) := fun w _ => by
  subst hj
  unfold execOp
  simp only [ho, hx, hy]
  simp [Instr.index, asIntOf, run_underlying hT, hl]
/-- bytes to a string. -/
theorem yBytesStr {e : TypeId} {A : Option Addr} {c m : Nat} {bs : List UInt8} (ho : o.op = .convert T U x) (hT : P.underlying T = some (.slice e)) (hU : P.underlying U = some .string) (he : P.underlying e = some (.int .u8)) (hx : ev n E x = .slice A m c) (hm : m = bs.length) (hr : Rd eByte H A bs) :
    Yld P n o E H (.string ⟨bs.toArray⟩) := fun w hw => by
  have hc : (Conv.bytesToString (.slice A m c)).run P w = .ok (.string ⟨bs.toArray⟩) w := by
    subst hm
    by_cases h0 : bs = []
    · subst h0
      rcases A with _ | p
      · simp [Conv.bytesToString]; rfl
      · have := run_bytesToString (P := P) w p 0 c [] (by simp [loadCells, loadCellsFrom])
        exact this
    · obtain ⟨p, rfl, hcell⟩ := hr h0
      have hl : (loadCells p bs.length).run P w = .ok ((bs.map fun b => (b.toNat : Int)).map (Value.int .u8)).toArray w := by
        have := run_loadCells_list (P := P) w p ((bs.map fun b => (b.toNat : Int)).map (Value.int .u8)) fun j u hu => by
          rw [cell_wd hw]
          refine hcell j u ?_
          rw [← hu, List.map_map]
          show (bs.flatMap fun b => [Value.int .u8 (b.toNat : Int)])[j]? = _
          rw [← List.map_eq_flatMap]
          rfl
        simpa using this
      rw [run_bytesToString w p bs.length c _ hl]
      have key : ∀ (l : List UInt8) (r : ByteArray), (l.map fun b => (b.toNat : Int)).foldl (fun r n => r.push (UInt8.ofNat n.toNat)) r = ⟨r.data ++ l.toArray⟩ := by
        intro l
        induction l with
        | nil => intro r; simp
        | cons b l ih =>
          intro r
          rw [List.map_cons, List.foldl_cons, ih]
          simp [ByteArray.push]
      rw [key]
      have he0 : ByteArray.empty.data = #[] := rfl
      rw [he0]
      simp
  unfold execOp
  simp only [ho, hx]
  simp [convert, run_underlying hT, run_underlying hU, run_underlying he, hc]

/-- Is the value no struct and no array? -/
def isOne : Value → Bool
  | .agg _ => false
  | _ => true
theorem cells_one {v : Value} (h : isOne v = true) : v.cells = #[v] := by cases v <;> first | rfl | cases h

theorem fold_seg (off : Nat) : ∀ (xs : List Value) (j0 : Nat) (cs : Array Value), off + j0 + xs.length ≤ cs.size →
    ((xs.zipIdx j0).foldl (fun (cs : Array Value) p => cs.setIfInBounds (off + p.2) p.1) cs).toList = cs.toList.take (off + j0) ++ xs ++ cs.toList.drop (off + j0 + xs.length)
  | [], j0, cs, h => by simp
  | v :: xs, j0, cs, h => by
    rw [List.zipIdx_cons, List.foldl_cons, fold_seg off xs (j0 + 1) _ (by simp at h ⊢; omega)]
    simp only [Array.toList_setIfInBounds]
    have hlt : off + j0 < cs.toList.length := by simp at h ⊢; omega
    have e1 : (cs.toList.set (off + j0) v).take (off + (j0 + 1)) = cs.toList.take (off + j0) ++ [v] := by
      rw [show off + (j0 + 1) = off + j0 + 1 by omega, List.take_set, List.take_add_one, List.getElem?_eq_getElem hlt]
      have hl2 : (cs.toList.take (off + j0)).length = off + j0 := by rw [List.length_take]; omega
      rw [List.set_append_right _ _ (by omega), hl2]
      simp
    have e2 : (cs.toList.set (off + j0) v).drop (off + (j0 + 1) + xs.length) = cs.toList.drop (off + j0 + (v :: xs).length) := by
      rw [List.drop_set_of_lt (by omega)]
      congr 1
      simp only [List.length_cons]; omega
    rw [e1, e2]
    simp
theorem fill_seq (sz : Nat) : ∀ (vs : List Value) (k : Nat) (cs : Array Value), (∀ v ∈ vs, v.cells.size = sz) → (k + vs.length) * sz ≤ cs.size →
    Instr.fill (fun i => some (i * sz, sz)) cs ((vs.zipIdx k).map fun p => (p.2, p.1)) = some (cs.toList.take (k * sz) ++ vs.flatMap (fun v => v.cells.toList) ++ cs.toList.drop ((k + vs.length) * sz)).toArray
  | [], k, cs, _, _ => by simp [Instr.fill]
  | v :: vs, k, cs, hv, h => by
    have hsz := hv v (by simp)
    have hle : k * sz + sz ≤ cs.size := by
      have : (k + 1) * sz ≤ (k + (v :: vs).length) * sz := Nat.mul_le_mul_right _ (by simp only [List.length_cons]; omega)
      rw [Nat.add_mul] at this
      omega
    rw [List.zipIdx_cons, List.map_cons]
    have hf := fold_seg (k * sz) v.cells.toList 0 cs (by simp [hsz]; omega)
    rw [Instr.fill]
    simp only [hsz, ne_eq, not_true_eq_false, decide_false, Bool.false_or, decide_eq_true_eq]
    rw [if_neg (by omega)]
    rw [show (v.cells.zipIdx.foldl (fun cs x => cs.setIfInBounds (k * sz + x.2) x.1) cs) = (cs.toList.take (k * sz) ++ v.cells.toList ++ cs.toList.drop (k * sz + sz)).toArray from by
      apply Array.ext'
      rw [List.toList_toArray]
      have := hf
      simp only [Nat.add_zero, Array.length_toList, hsz] at this
      rw [← this, ← Array.foldl_toList, Array.toList_zipIdx]]
    rw [fill_seq sz vs (k + 1) _ (fun u hu => hv u (by simp [hu])) (by
      rw [List.size_toArray]
      simp only [List.length_append, List.length_take, List.length_drop, Array.length_toList, hsz]
      have e : k + (v :: vs).length = k + 1 + vs.length := by simp; omega
      rw [e] at h
      omega)]
    congr 2
    have hl1 : (cs.toList.take (k * sz) ++ v.cells.toList).length = (k + 1) * sz := by
      rw [List.length_append, List.length_take, Array.length_toList, Array.length_toList, hsz, Nat.add_mul]; omega
    rw [List.toList_toArray, List.take_append_of_le_length (by rw [hl1]; exact Nat.le_refl _), List.take_of_length_le (by rw [hl1]; exact Nat.le_refl _)]
    rw [List.drop_append, List.drop_eq_nil_of_le (by rw [hl1]; exact Nat.mul_le_mul_right _ (by omega)), List.nil_append, List.drop_drop]
    simp only [List.flatMap_cons, List.append_assoc]
    congr 4
    rw [hl1]
    have e : k + (v :: vs).length = k + 1 + vs.length := by simp; omega
    rw [e, Nat.add_mul (k + 1), Nat.add_mul k]
    omega

def pv (n : Nat) (E : Env) : List (Nat × Operand) → List (Nat × Value)
  | [] => []
  | (i, x) :: l => (i, ev n E x) :: pv n E l
theorem pv_map (n : Nat) (E : Env) (l : List (Nat × Operand)) : pv n E l = l.map fun p => (p.1, ev n E p.2) := by
  induction l with
  | nil => rfl
  | cons x l ih => simp [pv, ih]
def enum : Nat → List Value → List (Nat × Value)
  | _, [] => []
  | k, v :: l => (k, v) :: enum (k + 1) l
theorem enum_zip : ∀ (l : List Value) (k : Nat), enum k l = (l.zipIdx k).map fun p => (p.2, p.1)
  | [], _ => rfl
  | v :: l, k => by simp [enum, List.zipIdx_cons, enum_zip l (k + 1)]

/-- A composite literal of a slice, each element given. -/
theorem nBuildSliceN {e sz : Nat} {z : Value} {ps : List (Nat × Operand)} {m : Nat} {vs cs : List Value} (ho : o.op = .buildSlice T m ps.toArray) (hT : P.underlying T = some (.slice e)) (hs : ∀ w, (sizeOf e).run P w = .ok sz w) (hz : ∀ w, (zeroValue e).run P w = .ok z w)
    (hp : pv n E ps = enum 0 vs) (hm : vs.length = m) (hv : vs.all (fun v => v.cells.size == sz) = true) (hb : Nat.ble (m * sz) 16777216 = true) (hcs : vs.flatMap (fun v => v.cells.toList) = cs) : NBlk P n o E (fun p => .slice (some p) m m) cs e := fun w => by
  subst hm
  have hb' : ¬ (vs.length * sz > 2 ^ 24) := by have := Nat.le_of_ble_eq_true hb; omega
  have hv' : ∀ v ∈ vs, v.cells.size = sz := by
    intro v hv1
    have := List.all_eq_true.1 hv v hv1
    simpa using this
  have hfill : ∀ c0 : Array Value, c0.size = vs.length * sz → Instr.fill (fun i => some (i * sz, sz)) c0 (enum 0 vs) = some cs.toArray := by
    intro c0 hc0
    rw [enum_zip, fill_seq sz vs 0 c0 hv' (by rw [hc0, Nat.zero_add]; exact Nat.le_refl _)]
    rw [← hcs]
    congr 2
    rw [List.drop_eq_nil_of_le (by rw [Array.length_toList, hc0, Nat.zero_add]; exact Nat.le_refl _)]
    simp
  have hmap : (ps.toArray.map fun p => (p.1, ev n E p.2)).toList = enum 0 vs := by rw [← hp, pv_map]; simp
  unfold execOp
  simp only [ho]
  have hrun : (Instr.buildSlice T vs.length (ps.toArray.map fun x => (x.1, ev n E x.2))).run P w = .ok (.slice (some ⟨w.heap.size, 0, none⟩) vs.length vs.length) (w.alloc (.cells cs.toArray e)) := by
    unfold Instr.buildSlice
    simp only [Sem.run_bind, run_underlying hT, Result.andThen_ok, hs, if_neg hb', hmap]
    by_cases h0 : vs.length * sz = 0
    · simp only [h0, if_true]
      simp only [Sem.run_bind, Sem.run_pure, Result.andThen_ok]
      rw [hfill _ (by simp [h0])]
      simp [newRow, newObj, Sem.run]
    · simp only [h0, if_false]
      simp only [Sem.run_bind, hz, Result.andThen_ok, Sem.run_pure]
      rw [hfill _ (by simp)]
      simp [newRow, newObj, Sem.run]
  simp only [Sem.run_bind, hrun, Result.andThen_ok, Sem.run_pure]
theorem nBuildSlice {e : Nat} {z : Value} {ps : List (Nat × Operand)} {m : Nat} {vs : List Value} (ho : o.op = .buildSlice T m ps.toArray) (hT : P.underlying T = some (.slice e)) (hs : ∀ w, (sizeOf e).run P w = .ok 1 w) (hz : ∀ w, (zeroValue e).run P w = .ok z w) 
    (hp : pv n E ps = enum 0 vs) (hm : vs.length = m) (hv : vs.all isOne = true) (hb : Nat.ble (m * 1) 16777216 = true) : NBlk P n o E (fun p => .slice (some p) m m) vs e := by
  refine nBuildSliceN ho hT hs hz hp hm ?_ hb ?_
  · rw [List.all_eq_true] at hv ⊢
    intro v hv1
    rw [cells_one (hv v hv1)]
    rfl
  · clear hp hm hb ho
    induction vs with
    | nil => rfl
    | cons v l ih =>
      simp only [List.all_cons, Bool.and_eq_true] at hv
      rw [List.flatMap_cons, cells_one hv.1, ih hv.2]
      rfl
end
end Go.Proofs.Ytcfnmklbkhibgaa
