/- The walker, part 3: a region that draws its order, walked in the order of its text. Operations of three kinds: q yields one and the same value in every heap of the region's class; n makes a block; e is any other (those are ordered among themselves). Nothing of the program. -/
import Derived.Test.YtcfnmklbkhibgaaLB
namespace Go.Proofs.Ytcfnmklbkhibgaa

inductive Kd where
  | q | n | e
  deriving DecidableEq
/-- Operation i has made block g. -/
structure NF where
  i : Nat
  g : Nat
  o : Obj
def nthN : List Nat → Nat → Nat
  | [], _ => 0
  | v :: _, 0 => v
  | _ :: l, i + 1 => nthN l i
def nthK : List Kd → Nat → Kd
  | [], _ => .e
  | v :: _, 0 => v
  | _ :: l, i + 1 => nthK l i

def noN : List Kd → Bool
  | [] => true
  | .n :: _ => false
  | _ :: l => noN l
theorem noN_of : ∀ (kd : List Kd) (i : Nat), nthK kd i = .n → noN kd = false
  | [], i, h => by cases h
  | k :: l, 0, h => by simp only [nthK] at h; subst h; rfl
  | k :: l, i + 1, h => by
    have := noN_of l i h
    cases k <;> simp [noN, this]
/-- The heap between two operations of kind e: as it was, but for what those of kind n have made. -/
def Grow (kd : List Kd) (H H' : Heap) : Prop := Ext H H' ∧ (noN kd = true → H' = H)
theorem Grow.refl (kd : List Kd) (H : Heap) : Grow kd H H := ⟨Ext.refl _, fun _ => rfl⟩
theorem Grow.push {kd : List Kd} {H H' : Heap} (h : Grow kd H H') {i : Nat} (hi : nthK kd i = .n) (o : Obj) : Grow kd H (H'.push o) := ⟨h.1.trans (Ext.push _ _), fun hn => by rw [noN_of kd i hi] at hn; cases hn⟩

/-- The walk: the operations that are left (by number, in the order of the text), the frame, the heap behind the last e, the blocks that may have turned since, the blocks made. -/
def Lex (P : Program) (n : Nat) (ops : List Oper) (kd : List Kd) (Ms : List Nat) (H0 : Heap) (M0 : List Nat) (K : Env → Heap → Prop) : List Nat → Env → Heap → List Nat → List NF → Prop
  | [], E, Hc, M, N => ∀ H, Grow kd Hc H → Keep M0 H0 H → (∀ x ∈ N, H[x.g]? = some x.o ∧ x.g ∉ M) → K E H
  | i :: l, E, Hc, M, N => ∀ o, ops[i]? = some o →
    (wantE ops n E o = false → Lex P n ops kd Ms H0 M0 K l (updO E o.dst undef) Hc M N) ∧
    (wantE ops n E o = true → match nthK kd i with
      | .q => ∃ v, (∀ H, Keep M0 H0 H → Yld P n o E H v) ∧ Lex P n ops kd Ms H0 M0 K l (updO E o.dst v) Hc M N
      | .n => ∃ Q : Nat → Value → Obj → Prop, Nyq P n o E Q ∧ ∀ g v obj, Q g v obj → H0.size ≤ g → (∀ x ∈ N, x.g ≠ g) → Lex P n ops kd Ms H0 M0 K l (updO E o.dst v) Hc M (⟨i, g, obj⟩ :: N)
      | .e => ∀ H, Grow kd Hc H → Keep M0 H0 H → (∀ x ∈ N, (nthN Ms i).testBit x.i = true → H[x.g]? = some x.o ∧ x.g ∉ M) →
          Step P n o E H fun v H1 => ∃ G M' N', (∀ b ∈ G, H0.size ≤ b ∧ ∃ x ∈ N, x.g = b) ∧ Keep (G ++ M) H H1 ∧ (∀ b ∈ M', (b ∈ M ∨ b ∈ G ∨ H.size ≤ b) ∧ b < H1.size) ∧ (∀ x ∈ N', x ∈ N ∧ x.g ∉ G) ∧ Lex P n ops kd Ms H0 M0 K l (updO E o.dst v) H1 M' N')

section
variable {P : Program} {n : Nat} {ops : List Oper} {kd : List Kd} {Ms : List Nat} {H0 : Heap} {M0 : List Nat} {K : Env → Heap → Prop}

/-- The order in which blocks are named does not matter. -/
theorem Lex.perm : ∀ (l : List Nat) (E : Env) (Hc : Heap) (M : List Nat) (N N' : List NF), (∀ x, x ∈ N' → x ∈ N) → (∀ x, x ∈ N → x ∈ N') → Lex P n ops kd Ms H0 M0 K l E Hc M N → Lex P n ops kd Ms H0 M0 K l E Hc M N'
  | [], E, Hc, M, N, N', h1, h2, h => fun H a b c => h H a b fun x hx => c x (h2 x hx)
  | i :: l, E, Hc, M, N, N', h1, h2, h => fun o ho => by
    obtain ⟨ha, hb⟩ := h o ho
    refine ⟨fun hw => Lex.perm l _ _ _ _ _ h1 h2 (ha hw), fun hw => ?_⟩
    have hb := hb hw
    cases hk : nthK kd i <;> simp only [hk] at hb ⊢
    · obtain ⟨v, hy, hl⟩ := hb
      exact ⟨v, hy, Lex.perm l _ _ _ _ _ h1 h2 hl⟩
    · obtain ⟨Q, hy, hl⟩ := hb
      refine ⟨Q, hy, fun g v obj hq hg hne => Lex.perm l _ _ _ _ _ ?_ ?_ (hl g v obj hq hg fun x hx => hne x (h2 x hx))⟩
      · intro x hx
        rcases List.mem_cons.1 hx with h | h
        · exact List.mem_cons.2 (.inl h)
        · exact List.mem_cons.2 (.inr (h1 x h))
      · intro x hx
        rcases List.mem_cons.1 hx with h | h
        · exact List.mem_cons.2 (.inl h)
        · exact List.mem_cons.2 (.inr (h2 x h))
    · intro H hx hM hN
      exact (hb H hx hM fun x hx => hN x (h2 x hx)).mono fun v H1 ⟨G, M', N1, hG, hk, hM', hN1, hl⟩ => ⟨G, M', N1, fun b hb => ⟨(hG b hb).1, let ⟨x, hx, e⟩ := (hG b hb).2; ⟨x, h2 x hx, e⟩⟩, hk, hM', fun x hx => ⟨h2 x (hN1 x hx).1, (hN1 x hx).2⟩, hl⟩

/-- Two operations that do not look at each other's slots. -/
structure Ap (ops : List Oper) (x y : Oper) : Prop where
  xy : ∀ d, x.dst = some d → d ∉ y.looksAt ops.toArray
  yx : ∀ d, y.dst = some d → d ∉ x.looksAt ops.toArray
  ne : ∀ d, x.dst = some d → y.dst ≠ some d
theorem Ap.symm {x y : Oper} (h : Ap ops x y) : Ap ops y x := ⟨h.yx, h.xy, fun d hd he => h.ne d he hd⟩
theorem Ap.of {x y : Oper} (h : x.apart ops.toArray y = true) : Ap ops x y := by
  obtain ⟨h1, h2, h3⟩ := Oper.apart_spec h
  exact ⟨h1, h3, h2⟩

theorem Ap.exec {x y : Oper} (h : Ap ops x y) (hs : ∀ cs b, y.op ≠ .select cs b) (E : Env) (v : Value) : execOp (ev n (updO E x.dst v)) y = execOp (ev n E) y := by
  have := execOp_put (ops := ops.toArray) y hs (act n E) x.dst v h.xy
  rwa [act_put, act_eval, act_eval] at this
theorem Ap.want {x y : Oper} (h : Ap ops x y) (E : Env) (v : Value) : wantE ops n (updO E x.dst v) y = wantE ops n E y := by
  have := wanted_put (ops := ops.toArray) y (act n E) x.dst v h.xy
  rwa [act_put, wanted_eq, wanted_eq] at this
theorem Ap.comm {x y : Oper} (h : Ap ops x y) (E : Env) (v u : Value) : updO (updO E x.dst v) y.dst u = updO (updO E y.dst u) x.dst v := by
  cases hx : x.dst with
  | none => rfl
  | some d =>
    cases hy : y.dst with
    | none => rfl
    | some e => exact upd_comm E (fun he => h.ne d hx (by rw [hy, he])) v u
theorem Ap.yld {x y : Oper} (h : Ap ops x y) (hs : ∀ cs b, y.op ≠ .select cs b) {E : Env} {v u : Value} {H : Heap} : Yld P n y (updO E x.dst v) H u ↔ Yld P n y E H u := by
  unfold Yld; rw [h.exec hs]
theorem Ap.nyl {x y : Oper} (h : Ap ops x y) (hs : ∀ cs b, y.op ≠ .select cs b) {E : Env} {v : Value} {Q : Nat → Value → Obj → Prop} : Nyq P n y (updO E x.dst v) Q ↔ Nyq P n y E Q := by
  unfold Nyq; rw [h.exec hs]
theorem Ap.step {x y : Oper} (h : Ap ops x y) (hs : ∀ cs b, y.op ≠ .select cs b) {E : Env} {v : Value} {H : Heap} {Q : Value → Heap → Prop} : Step P n y (updO E x.dst v) H Q ↔ Step P n y E H Q := by
  unfold Step; rw [h.exec hs]

/-- No select. -/
def NoSel (ops : List Oper) : Prop := ∀ (j : Nat) (o : Oper) cs b, ops[j]? = some o → o.op ≠ .select cs b

theorem keepStep {H0 Hr H1 : Heap} {M0 M : List Nat} (hK : Keep M0 H0 Hr) (hk : Keep M Hr H1) (hM : ∀ b ∈ M, b < H0.size → b ∈ M0) : Keep M0 H0 H1 :=
  ⟨Nat.le_trans hK.size hk.size, fun b hb hm => (hk.at_ b (Nat.lt_of_lt_of_le hb hK.size) fun hbM => hm (hM b hbM hb)).trans (hK.at_ b hb hm)⟩

/-- What an operation that stands behind others yields (they do not touch it). -/
theorem Lex.find (hns : NoSel ops) {i : Nat} {oi : Oper} (hi : ops[i]? = some oi) {L2 : List Nat} : ∀ (L1 : List Nat) (E : Env) (Hc : Heap) (M : List Nat) (N : List NF) (Hr : Heap),
    (∀ h ∈ L1, ∃ oh, ops[h]? = some oh ∧ Ap ops oh oi) →
    Grow kd Hc Hr → Keep M0 H0 Hr → (∀ x ∈ N, Hr[x.g]? = some x.o ∧ x.g ∉ M) → (∀ b ∈ M, (b < H0.size → b ∈ M0) ∧ b < Hr.size) → H0.size ≤ Hr.size →
    wantE ops n E oi = true → Lex P n ops kd Ms H0 M0 K (L1 ++ i :: L2) E Hc M N →
    (nthK kd i = .q → ∃ v, ∀ H, Keep M0 H0 H → Yld P n oi E H v) ∧ (nthK kd i = .n → ∃ Q, Nyq P n oi E Q)
  | [], E, Hc, M, N, Hr, _, _, _, _, _, _, hw, h => by
    have hb := (h oi hi).2 hw
    refine ⟨fun hk => ?_, fun hk => ?_⟩
    · simp only [hk] at hb
      obtain ⟨v, hy, _⟩ := hb
      exact ⟨v, hy⟩
    · simp only [hk] at hb
      obtain ⟨Q, hy, _⟩ := hb
      exact ⟨Q, hy⟩
  | h :: L1, E, Hc, M, N, Hr, hL, hx, hK, hN, hM, h0, hw, hlex => by
    obtain ⟨oh, hoh, hap⟩ := hL h (by simp)
    have hL' : ∀ k ∈ L1, ∃ ok, ops[k]? = some ok ∧ Ap ops ok oi := fun k hk => hL k (by simp [hk])
    have hsi := fun cs b => hns i oi cs b hi
    obtain ⟨ha, hb⟩ := hlex oh hoh
    have back : ∀ v, ((nthK kd i = .q → ∃ u, ∀ H, Keep M0 H0 H → Yld P n oi (updO E oh.dst v) H u) ∧ (nthK kd i = .n → ∃ Q, Nyq P n oi (updO E oh.dst v) Q)) →
        (nthK kd i = .q → ∃ u, ∀ H, Keep M0 H0 H → Yld P n oi E H u) ∧ (nthK kd i = .n → ∃ Q, Nyq P n oi E Q) := by
      rintro v ⟨h1, h2⟩
      refine ⟨fun hk => ?_, fun hk => ?_⟩
      · obtain ⟨u, hu⟩ := h1 hk
        exact ⟨u, fun H hH => (hap.yld hsi).1 (hu H hH)⟩
      · obtain ⟨Q, hu⟩ := h2 hk
        exact ⟨Q, (hap.nyl hsi).1 hu⟩
    cases hwh : wantE ops n E oh
    · exact back undef (Lex.find hns hi L1 _ Hc M N Hr hL' hx hK hN hM h0 (by rw [hap.want]; exact hw) (ha hwh))
    · have hb := hb hwh
      cases hk : nthK kd h <;> simp only [hk] at hb
      · obtain ⟨v, _, hl⟩ := hb
        exact back v (Lex.find hns hi L1 _ Hc M N Hr hL' hx hK hN hM h0 (by rw [hap.want]; exact hw) hl)
      · obtain ⟨Q, hy, hl⟩ := hb
        obtain ⟨wr, hwr⟩ := worldOf Hr
        obtain ⟨vr, obj, wr', -, -, -, hq⟩ := hy wr
        rw [hwr] at hq
        refine back vr (Lex.find hns hi L1 _ Hc M _ (Hr.push obj) hL' (hx.push hk _) (hK.trans ((Ext.push _ _).keep _)) ?_ ?_ (by simp; omega) (by rw [hap.want]; exact hw) (hl Hr.size vr obj hq h0 fun x hx e => by have := (Array.getElem?_eq_some_iff.1 (hN x hx).1).1; omega))
        · intro x hxm
          rcases List.mem_cons.1 hxm with rfl | hxm
          · refine ⟨by simp, fun hm => ?_⟩
            have := (hM _ hm).2
            exact absurd this (Nat.lt_irrefl _)
          · obtain ⟨h1, h2⟩ := hN x hxm
            refine ⟨?_, h2⟩
            have hlt := (Array.getElem?_eq_some_iff.1 h1).1
            rw [(Ext.push Hr obj).at_ _ hlt]; exact h1
        · intro b hb
          exact ⟨(hM b hb).1, by simp; have := (hM b hb).2; omega⟩
      · obtain ⟨v, H1, G, M', N', hG, hkeep, hM', hN', hl⟩ := (hb Hr hx hK fun x hx _ => hN x hx).some_
        refine back v (Lex.find hns hi L1 _ H1 M' N' H1 hL' (Grow.refl _ _) ?_ ?_ ?_ (Nat.le_trans h0 hkeep.size) (by rw [hap.want]; exact hw) hl)
        · refine keepStep hK hkeep fun b hb hlt => ?_
          rcases List.mem_append.1 hb with hb | hb
          · have := (hG b hb).1; omega
          · exact (hM b hb).1 hlt
        · intro x hxm
          obtain ⟨hxN, hxG⟩ := hN' x hxm
          obtain ⟨h1, h2⟩ := hN x hxN
          have hlt := (Array.getElem?_eq_some_iff.1 h1).1
          refine ⟨by rw [hkeep.at_ _ hlt (fun h => (List.mem_append.1 h).elim hxG h2)]; exact h1, fun hm => ?_⟩
          rcases (hM' _ hm).1 with h | h | h
          · exact h2 h
          · exact hxG h
          · omega
        · intro b hb
          obtain ⟨h1, h2⟩ := hM' b hb
          refine ⟨fun hlt => ?_, h2⟩
          rcases h1 with h1 | h1 | h1
          · exact (hM b h1).1 hlt
          · have := (hG b h1).1; omega
          · omega

/-- An operation that is not wanted may be passed over ahead of others. -/
theorem Lex.skip (hns : NoSel ops) {i : Nat} {oi : Oper} (hi : ops[i]? = some oi) {L2 : List Nat} : ∀ (L1 : List Nat) (E : Env) (Hc : Heap) (M : List Nat) (N : List NF),
    (∀ h ∈ L1, ∃ oh, ops[h]? = some oh ∧ Ap ops oh oi) → wantE ops n E oi = false → Lex P n ops kd Ms H0 M0 K (L1 ++ i :: L2) E Hc M N →
    Lex P n ops kd Ms H0 M0 K (L1 ++ L2) (updO E oi.dst undef) Hc M N
  | [], E, Hc, M, N, _, hw, h => (h oi hi).1 hw
  | h :: L1, E, Hc, M, N, hL, hw, hlex => by
    obtain ⟨oh, hoh, hap⟩ := hL h (by simp)
    have hL' : ∀ k ∈ L1, ∃ ok, ops[k]? = some ok ∧ Ap ops ok oi := fun k hk => hL k (by simp [hk])
    have hsh := fun cs b => hns h oh cs b hoh
    obtain ⟨ha, hb⟩ := hlex oh hoh
    have go : ∀ v Hc M N, Lex P n ops kd Ms H0 M0 K (L1 ++ i :: L2) (updO E oh.dst v) Hc M N → Lex P n ops kd Ms H0 M0 K (L1 ++ L2) (updO (updO E oi.dst undef) oh.dst v) Hc M N := by
      intro v Hc M N hl
      have := Lex.skip hns hi L1 _ Hc M N hL' (by rw [hap.want]; exact hw) hl
      rwa [hap.comm] at this
    intro o ho
    obtain rfl : o = oh := Option.some.inj (ho.symm.trans hoh)
    rw [hap.symm.want]
    refine ⟨fun hwh => go _ _ _ _ (ha hwh), fun hwh => ?_⟩
    have hb := hb hwh
    cases hk : nthK kd h <;> simp only [hk] at hb ⊢
    · obtain ⟨v, hy, hl⟩ := hb
      exact ⟨v, fun H hH => (hap.symm.yld hsh).2 (hy H hH), go _ _ _ _ hl⟩
    · obtain ⟨Q, hy, hl⟩ := hb
      exact ⟨Q, (hap.symm.nyl hsh).2 hy, fun g v obj hq hg hne => go _ _ _ _ (hl g v obj hq hg hne)⟩
    · intro H hx hM hN
      exact ((hap.symm.step hsh).2 (hb H hx hM hN)).mono fun v H1 ⟨G, M', N1, h1, h2, h3, h4, hl⟩ => ⟨G, M', N1, h1, h2, h3, h4, go _ _ _ _ hl⟩

/-- An operation of kind q may be carried out ahead of others. -/
theorem Lex.frontQ (hns : NoSel ops) {i : Nat} {oi : Oper} (hi : ops[i]? = some oi) (hki : nthK kd i = .q) {v : Value} {L2 : List Nat} : ∀ (L1 : List Nat) (E : Env) (Hc : Heap) (M : List Nat) (N : List NF),
    (∀ h ∈ L1, ∃ oh, ops[h]? = some oh ∧ Ap ops oh oi) → wantE ops n E oi = true → (∀ H, Keep M0 H0 H → Yld P n oi E H v) → Lex P n ops kd Ms H0 M0 K (L1 ++ i :: L2) E Hc M N →
    Lex P n ops kd Ms H0 M0 K (L1 ++ L2) (updO E oi.dst v) Hc M N
  | [], E, Hc, M, N, _, hw, hy, h => by
    have hb := (h oi hi).2 hw
    simp only [hki] at hb
    obtain ⟨u, hu, hl⟩ := hb
    rw [(hy H0 (Keep.refl _ _)).det (hu H0 (Keep.refl _ _))]
    exact hl
  | h :: L1, E, Hc, M, N, hL, hw, hy, hlex => by
    obtain ⟨oh, hoh, hap⟩ := hL h (by simp)
    have hL' : ∀ k ∈ L1, ∃ ok, ops[k]? = some ok ∧ Ap ops ok oi := fun k hk => hL k (by simp [hk])
    have hsh := fun cs b => hns h oh cs b hoh
    have hsi := fun cs b => hns i oi cs b hi
    obtain ⟨ha, hb⟩ := hlex oh hoh
    have go : ∀ u Hc M N, Lex P n ops kd Ms H0 M0 K (L1 ++ i :: L2) (updO E oh.dst u) Hc M N → Lex P n ops kd Ms H0 M0 K (L1 ++ L2) (updO (updO E oi.dst v) oh.dst u) Hc M N := by
      intro u Hc M N hl
      have := Lex.frontQ hns hi hki L1 _ Hc M N hL' (by rw [hap.want]; exact hw) (fun H hH => (hap.yld hsi).2 (hy H hH)) hl
      rwa [hap.comm] at this
    intro o ho
    obtain rfl : o = oh := Option.some.inj (ho.symm.trans hoh)
    rw [hap.symm.want]
    refine ⟨fun hwh => go _ _ _ _ (ha hwh), fun hwh => ?_⟩
    have hb := hb hwh
    cases hk : nthK kd h <;> simp only [hk] at hb ⊢
    · obtain ⟨u, hu, hl⟩ := hb
      exact ⟨u, fun H hH => (hap.symm.yld hsh).2 (hu H hH), go _ _ _ _ hl⟩
    · obtain ⟨Q, hu, hl⟩ := hb
      exact ⟨Q, (hap.symm.nyl hsh).2 hu, fun g u obj hq hg hne => go _ _ _ _ (hl g u obj hq hg hne)⟩
    · intro H hx hM hN
      exact ((hap.symm.step hsh).2 (hb H hx hM hN)).mono fun v H1 ⟨G, M', N1, h1, h2, h3, h4, hl⟩ => ⟨G, M', N1, h1, h2, h3, h4, go _ _ _ _ hl⟩

/-- An operation of kind n may be carried out ahead of others. -/
theorem Lex.frontN (hns : NoSel ops) {i : Nat} {oi : Oper} (hi : ops[i]? = some oi) (hki : nthK kd i = .n) {v : Value} {obj : Obj} {L2 : List Nat} {g : Nat} (hg : H0.size ≤ g) : ∀ (L1 : List Nat) (E : Env) (Hc : Heap) (M : List Nat) (N : List NF),
    (∀ h ∈ L1, (∃ oh, ops[h]? = some oh ∧ Ap ops oh oi) ∧ (nthN Ms h).testBit i = false) → wantE ops n E oi = true → (∀ Q, Nyq P n oi E Q → Q g v obj) → (∀ x ∈ N, x.g ≠ g) → Lex P n ops kd Ms H0 M0 K (L1 ++ i :: L2) E Hc M N →
    Lex P n ops kd Ms H0 M0 K (L1 ++ L2) (updO E oi.dst v) Hc M (⟨i, g, obj⟩ :: N)
  | [], E, Hc, M, N, _, hw, hy, hne, h => by
    have hb := (h oi hi).2 hw
    simp only [hki] at hb
    obtain ⟨Q, hu, hl⟩ := hb
    exact hl g v obj (hy Q hu) hg hne
  | h :: L1, E, Hc, M, N, hL, hw, hy, hne, hlex => by
    obtain ⟨⟨oh, hoh, hap⟩, hdep⟩ := hL h (by simp)
    have hL' : ∀ k ∈ L1, (∃ ok, ops[k]? = some ok ∧ Ap ops ok oi) ∧ (nthN Ms k).testBit i = false := fun k hk => hL k (by simp [hk])
    have hsh := fun cs b => hns h oh cs b hoh
    have hsi := fun cs b => hns i oi cs b hi
    obtain ⟨ha, hb⟩ := hlex oh hoh
    have go : ∀ u Hc M N, (∀ x ∈ N, x.g ≠ g) → Lex P n ops kd Ms H0 M0 K (L1 ++ i :: L2) (updO E oh.dst u) Hc M N → Lex P n ops kd Ms H0 M0 K (L1 ++ L2) (updO (updO E oi.dst v) oh.dst u) Hc M (⟨i, g, obj⟩ :: N) := by
      intro u Hc M N hne hl
      have := Lex.frontN hns hi hki hg L1 _ Hc M N hL' (by rw [hap.want]; exact hw) (fun Q hQ => hy Q ((hap.nyl hsi).1 hQ)) hne hl
      rwa [hap.comm] at this
    intro o ho
    obtain rfl : o = oh := Option.some.inj (ho.symm.trans hoh)
    rw [hap.symm.want]
    refine ⟨fun hwh => go _ _ _ _ hne (ha hwh), fun hwh => ?_⟩
    have hb := hb hwh
    cases hk : nthK kd h <;> simp only [hk] at hb ⊢
    · obtain ⟨u, hu, hl⟩ := hb
      exact ⟨u, fun H hH => (hap.symm.yld hsh).2 (hu H hH), go _ _ _ _ hne hl⟩
    · obtain ⟨Q, hu, hl⟩ := hb
      refine ⟨Q, (hap.symm.nyl hsh).2 hu, fun g' v' obj' hq' hg' hne' => Lex.perm _ _ _ _ _ _ ?_ ?_ (go _ _ _ _ ?_ (hl g' v' obj' hq' hg' fun x hx => hne' x (List.mem_cons_of_mem _ hx)))⟩
      · intro x hx
        simp only [List.mem_cons] at hx ⊢
        rcases hx with h | h | h
        · exact .inr (.inl h)
        · exact .inl h
        · exact .inr (.inr h)
      · intro x hx
        simp only [List.mem_cons] at hx ⊢
        rcases hx with h | h | h
        · exact .inr (.inl h)
        · exact .inl h
        · exact .inr (.inr h)
      · intro x hx
        rcases List.mem_cons.1 hx with rfl | hx
        · exact fun e => hne' ⟨i, g, obj⟩ (by simp) e.symm
        · exact hne x hx
    · intro H hx hM hN
      refine ((hap.symm.step hsh).2 (hb H hx hM fun x hx => hN x (List.mem_cons_of_mem _ hx))).mono ?_
      rintro v H1 ⟨G, M', N1, h1, h2, h3, h4, hl⟩
      refine ⟨G, M', ⟨i, g, obj⟩ :: N1, fun b hb => ⟨(h1 b hb).1, let ⟨x, hx, e⟩ := (h1 b hb).2; ⟨x, List.mem_cons_of_mem _ hx, e⟩⟩, h2, h3, ?_, go _ _ _ _ (fun x hx => hne x (h4 x hx).1) hl⟩
      intro x hx
      rcases List.mem_cons.1 hx with rfl | hx
      · refine ⟨by simp, fun hb => ?_⟩
        obtain ⟨y, hy, e⟩ := (h1 _ hb).2
        exact hne y hy e
      · exact ⟨List.mem_cons_of_mem _ (h4 x hx).1, (h4 x hx).2⟩

/-- An operation of kind e may be carried out ahead of operations of kind q. -/
theorem Lex.frontE (hns : NoSel ops) {i : Nat} {oi : Oper} (hi : ops[i]? = some oi) (hki : nthK kd i = .e) {L2 : List Nat} : ∀ (L1 : List Nat) (E : Env) (Hc : Heap) (M : List Nat) (N : List NF),
    (∀ h ∈ L1, (∃ oh, ops[h]? = some oh ∧ Ap ops oh oi) ∧ nthK kd h = .q) → wantE ops n E oi = true → Lex P n ops kd Ms H0 M0 K (L1 ++ i :: L2) E Hc M N →
    ∀ H, Grow kd Hc H → Keep M0 H0 H → (∀ x ∈ N, (nthN Ms i).testBit x.i = true → H[x.g]? = some x.o ∧ x.g ∉ M) →
      Step P n oi E H fun v H1 => ∃ G M' N', (∀ b ∈ G, H0.size ≤ b ∧ ∃ x ∈ N, x.g = b) ∧ Keep (G ++ M) H H1 ∧ (∀ b ∈ M', (b ∈ M ∨ b ∈ G ∨ H.size ≤ b) ∧ b < H1.size) ∧ (∀ x ∈ N', x ∈ N ∧ x.g ∉ G) ∧ Lex P n ops kd Ms H0 M0 K (L1 ++ L2) (updO E oi.dst v) H1 M' N'
  | [], E, Hc, M, N, _, hw, h => by
    have hb := (h oi hi).2 hw
    simp only [hki] at hb
    exact hb
  | h :: L1, E, Hc, M, N, hL, hw, hlex => by
    obtain ⟨⟨oh, hoh, hap⟩, hkh⟩ := hL h (by simp)
    have hL' : ∀ k ∈ L1, (∃ ok, ops[k]? = some ok ∧ Ap ops ok oi) ∧ nthK kd k = .q := fun k hk => hL k (by simp [hk])
    have hsh := fun cs b => hns h oh cs b hoh
    have hsi := fun cs b => hns i oi cs b hi
    obtain ⟨ha, hb⟩ := hlex oh hoh
    intro H hx hM hN
    cases hwh : wantE ops n E oh
    · refine ((hap.step hsi).1 (Lex.frontE hns hi hki L1 _ Hc M N hL' (by rw [hap.want]; exact hw) (ha hwh) H hx hM hN)).mono ?_
      rintro v H1 ⟨G, M', N1, h1, h2, h3, h4, hl⟩
      refine ⟨G, M', N1, h1, h2, h3, h4, ?_⟩
      intro o ho
      obtain rfl : o = oh := Option.some.inj (ho.symm.trans hoh)
      rw [hap.symm.want]
      refine ⟨fun _ => (by rwa [hap.comm] at hl), fun h => (by rw [hwh] at h; cases h)⟩
    · have hb := hb hwh
      simp only [hkh] at hb
      obtain ⟨u, hu, hl⟩ := hb
      refine ((hap.step hsi).1 (Lex.frontE hns hi hki L1 _ Hc M N hL' (by rw [hap.want]; exact hw) hl H hx hM hN)).mono ?_
      rintro v H1 ⟨G, M', N1, h1, h2, h3, h4, hl⟩
      refine ⟨G, M', N1, h1, h2, h3, h4, ?_⟩
      intro o ho
      obtain rfl : o = oh := Option.some.inj (ho.symm.trans hoh)
      rw [hap.symm.want]
      refine ⟨fun h => (by rw [hwh] at h; cases h), fun _ => ?_⟩
      simp only [hkh]
      exact ⟨u, fun H hH => (hap.symm.yld hsh).2 (hu H hH), by rwa [hap.comm] at hl⟩
end
end Go.Proofs.Ytcfnmklbkhibgaa
