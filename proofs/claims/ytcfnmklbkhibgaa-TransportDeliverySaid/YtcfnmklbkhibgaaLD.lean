/- The walker, part 4: the walk of a drawn region is sound. Nothing of the program. -/
import Derived.Test.YtcfnmklbkhibgaaLC
namespace Go.Proofs.Ytcfnmklbkhibgaa

def linksOf (Ms : List Nat) (o : Oper) : Nat := o.after.toList.foldl (fun s e => if Region.binds .any e then s ||| 2 ^ e.on ||| nthN Ms e.on else s) 0
def kdOk : Kd → Kd → Bool
  | .e, .e => false
  | .n, .e => false
  | _, _ => true
/-- Ms: for each operation the set of those that stand ahead of it in every order. m: from number m on each operation stands behind all before it. -/
def lexOk (ops : List Oper) (kd : List Kd) (m : Nat) (Ms : List Nat) : Bool :=
  Region.noSelect ops.toArray && decide (m ≤ ops.length) &&
  (List.range ops.length).all fun j => match ops[j]? with
    | none => false
    | some oj =>
      oj.after.toList.all (fun e => !Region.binds .any e || decide (e.on < j)) &&
      (linksOf Ms oj ||| nthN Ms j == linksOf Ms oj) &&
      (List.range j).all fun i => (nthN Ms j).testBit i ||
        (decide (j < m) && kdOk (nthK kd i) (nthK kd j) && match ops[i]? with
          | some oi => oi.apart ops.toArray oj
          | none => false)

section
variable {P : Program} {n : Nat} {ops : List Oper} {kd : List Kd} {m : Nat} {Ms : List Nat} {H0 : Heap} {M0 : List Nat} {K : Env → Heap → Prop}

theorem testBit_links {Ms : List Nat} {i : Nat} : ∀ (l : List Edge) (s : Nat), (l.foldl (fun s e => if Region.binds .any e then s ||| 2 ^ e.on ||| nthN Ms e.on else s) s).testBit i = true →
    s.testBit i = true ∨ ∃ e ∈ l, Region.binds .any e = true ∧ (e.on = i ∨ (nthN Ms e.on).testBit i = true)
  | [], s, h => .inl h
  | e :: l, s, h => by
    rw [List.foldl_cons] at h
    rcases testBit_links l _ h with h | ⟨e', he, hb⟩
    · by_cases hb : Region.binds .any e = true
      · rw [if_pos hb, Nat.testBit_or, Nat.testBit_or, Bool.or_eq_true, Bool.or_eq_true] at h
        rcases h with (h | h) | h
        · exact .inl h
        · rw [Nat.testBit_two_pow] at h
          exact .inr ⟨e, by simp, hb, .inl (of_decide_eq_true h)⟩
        · exact .inr ⟨e, by simp, hb, .inr h⟩
      · rw [if_neg hb] at h
        exact .inl h
    · exact .inr ⟨e', by simp [he], hb⟩

structure LexOk (ops : List Oper) (kd : List Kd) (m : Nat) (Ms : List Nat) : Prop where
  sel : NoSel ops
  le : m ≤ ops.length
  edge : ∀ (j : Nat) oj, ops[j]? = some oj → ∀ e ∈ oj.after, Region.binds .any e = true → e.on < j
  link : ∀ (j : Nat) oj i, ops[j]? = some oj → (nthN Ms j).testBit i = true → ∃ e ∈ oj.after, Region.binds .any e = true ∧ (e.on = i ∨ (nthN Ms e.on).testBit i = true)
  pair : ∀ (j i : Nat) oj, ops[j]? = some oj → i < j → (nthN Ms j).testBit i = false → j < m ∧ kdOk (nthK kd i) (nthK kd j) = true ∧ ∃ oi, ops[i]? = some oi ∧ Ap ops oi oj
theorem LexOk.of (h : lexOk ops kd m Ms = true) : LexOk ops kd m Ms := by
  unfold lexOk at h
  rw [Bool.and_eq_true, Bool.and_eq_true, decide_eq_true_iff, List.all_eq_true] at h
  obtain ⟨⟨h1, h2⟩, h3⟩ := h
  have each : ∀ (j : Nat) oj, ops[j]? = some oj → oj.after.toList.all (fun e => !Region.binds .any e || decide (e.on < j)) = true ∧ (linksOf Ms oj ||| nthN Ms j = linksOf Ms oj) ∧
      ∀ i, i < j → ((nthN Ms j).testBit i = true ∨ (j < m ∧ kdOk (nthK kd i) (nthK kd j) = true ∧ ∃ oi, ops[i]? = some oi ∧ oi.apart ops.toArray oj = true)) := by
    intro j oj hj
    have hlt := (List.getElem?_eq_some_iff.1 hj).1
    have := h3 j (List.mem_range.2 hlt)
    rw [hj] at this
    simp only [Bool.and_eq_true, beq_iff_eq, List.all_eq_true (l := List.range j), List.mem_range, Bool.or_eq_true, decide_eq_true_iff] at this
    obtain ⟨⟨ha, hb⟩, hc⟩ := this
    refine ⟨ha, hb, fun i hi => ?_⟩
    rcases hc i hi with hc | ⟨⟨hc1, hc2⟩, hc3⟩
    · exact .inl hc
    · refine .inr ⟨hc1, hc2, ?_⟩
      cases ho : ops[i]? with
      | none => rw [ho] at hc3; cases hc3
      | some oi => rw [ho] at hc3; exact ⟨oi, rfl, hc3⟩
  refine ⟨fun j o cs b ho => Region.noSelect_spec h1 j o cs b (by simpa using ho), h2, ?_, ?_, ?_⟩
  · intro j oj hj e he hb
    have := (each j oj hj).1
    rw [List.all_eq_true] at this
    have := this e (Array.mem_toList_iff.2 he)
    simpa [hb] using this
  · intro j oj i hj ht
    have h4 := (each j oj hj).2.1
    have h5 : (linksOf Ms oj).testBit i = true := by rw [← h4, Nat.testBit_or, ht, Bool.or_true]
    rcases testBit_links _ _ h5 with h | ⟨e, he, hb⟩
    · simp at h
    · exact ⟨e, Array.mem_toList_iff.1 he, hb⟩
  · intro j i oj hj hi hb
    rcases (each j oj hj).2.2 i hi with h | ⟨h, h', oi, ho, ha⟩
    · rw [hb] at h; cases h
    · exact ⟨h, h', oi, ho, Ap.of ha⟩

/-- What has come up is closed under what must come up before. -/
def Closed (ops : List Oper) (listed : Array Bool) : Prop := ∀ (j : Nat) oj, ops[j]? = some oj → listed.getD j false = true → ∀ e ∈ oj.after, Region.binds .any e = true → listed.getD e.on false = true
theorem Closed.link (hok : LexOk ops kd m Ms) {listed : Array Bool} (hc : Closed ops listed) : ∀ (j : Nat) oj, ops[j]? = some oj → (∀ e ∈ oj.after, Region.binds .any e = true → listed.getD e.on false = true) →
    ∀ i, (nthN Ms j).testBit i = true → listed.getD i false = true := by
  intro j
  induction j using Nat.strongRecOn with
  | ind j ih =>
    intro oj hj hall i hi
    obtain ⟨e, he, hb, h⟩ := hok.link j oj i hj hi
    have h1 := hall e he hb
    rcases h with h | h
    · rw [← h]; exact h1
    · have hlt := hok.edge j oj hj e he hb
      have hlen : e.on < ops.length := Nat.lt_trans hlt (List.getElem?_eq_some_iff.1 hj).1
      exact ih e.on hlt ops[e.on] (List.getElem?_eq_getElem hlen) (hc e.on _ (List.getElem?_eq_getElem hlen) h1) i h
theorem Closed.set {listed : Array Bool} (hc : Closed ops listed) {i : Nat} {oi : Oper} (hi : ops[i]? = some oi) (hall : ∀ e ∈ oi.after, Region.binds .any e = true → listed.getD e.on false = true) : Closed ops (listed.setIfInBounds i true) := by
  intro j oj hj hl e he hb
  refine getD_set_true ?_
  by_cases hji : i = j
  · subst hji
    obtain rfl : oj = oi := Option.some.inj (hj.symm.trans hi)
    exact hall e he hb
  · rw [getD_set_ne false hji] at hl
    exact hc j oj hj hl e he hb

theorem getD_tf {listed : Array Bool} {i : Nat} (h : i < listed.size) (d d' : Bool) : listed.getD i d = listed.getD i d' := by simp [h]

/-- The tail: each behind all before it. -/
theorem tail_sound (hok : LexOk ops kd m Ms) {w0 : World} {Q : Exit → Act → World → Prop} (hQ : ∀ E w, Same w0 w → K E w.heap → Q .normal (act n E) w) : ∀ (l : List Oper) (k : Nat) (listed : Array Bool) (E : Env) (w : World),
    listed.size = ops.length → (∀ j, l[j]? = ops[k + j]?) → m ≤ k → k + l.length = ops.length → (∀ i, i < k → listed.getD i false = true) → (∀ i, k ≤ i → i < ops.length → listed.getD i true = false) → Same w0 w → Seq P n ops K l E w.heap →
    wpAny P .any ops.toArray Q l.length listed (act n E) w
  | [], k, listed, E, w, hsz, hl, hk, hlen, h1, h2, hs, h => by
    refine ⟨?_, hQ E w hs h⟩
    rw [List.eq_nil_iff_forall_not_mem]
    intro j hj
    obtain ⟨h0, o, ho, _⟩ := mem_ready.1 hj
    have hlt : j < ops.length := by
      have := (Array.getElem?_eq_some_iff.1 ho).1
      simpa using this
    have := h1 j (by simp at hlen; omega)
    rw [getD_tf (by omega) false true, h0] at this
    cases this
  | o :: l, k, listed, E, w, hsz, hl, hk, hlen, h1, h2, hs, h => by
    have h0 : ops[k]? = some o := by simpa using (hl 0).symm
    have hklt := (List.getElem?_eq_some_iff.1 h0).1
    have hkr : k ∈ Region.ready .any ops.toArray listed := mem_ready.2 ⟨h2 k (Nat.le_refl _) hklt, o, by simpa using h0, fun e he hb => h1 _ (hok.edge k o h0 e he hb)⟩
    have only : ∀ i ∈ Region.ready .any ops.toArray listed, i = k := by
      intro i hi
      obtain ⟨hu, oi, hoi, hall⟩ := mem_ready.1 hi
      have hoi : ops[i]? = some oi := by simpa using hoi
      have hlt := (List.getElem?_eq_some_iff.1 hoi).1
      rcases Nat.lt_trichotomy i k with hik | hik | hik
      · have := h1 i hik
        rw [getD_tf (by omega) false true, hu] at this
        cases this
      · exact hik
      · exfalso
        have hb : (nthN Ms i).testBit k = true := by
          cases hb : (nthN Ms i).testBit k
          · have := (hok.pair i k oi hoi hik hb).1
            omega
          · rfl
        -- closed below k: every edge of i is listed, so k is
        have hcl : Closed ops listed := by
          intro j oj hj hlj e he hb'
          have hej := hok.edge j oj hj e he hb'
          have hjk : j < k := by
            rcases Nat.lt_or_ge j k with h | h
            · exact h
            · have hjl := (List.getElem?_eq_some_iff.1 hj).1
              have := h2 j h hjl
              rw [getD_tf (by omega) true false, hlj] at this
              cases this
          exact h1 _ (by omega)
        have := hcl.link hok i oi hoi hall k hb
        rw [getD_tf (by omega) false true, h2 k (Nat.le_refl _) hklt] at this
        cases this
    have next : ∀ (v : Value) (w' : World), Same w0 w' → Seq P n ops K l (updO E o.dst v) w'.heap → wpAny P .any ops.toArray Q l.length (listed.setIfInBounds k true) (act n (updO E o.dst v)) w' := by
      intro v w' hs' h'
      refine tail_sound hok hQ l (k + 1) _ _ w' (by simpa using hsz) (fun j => by have := hl (j + 1); simpa [Nat.add_assoc, Nat.add_comm 1 j] using this) (by omega) (by simp at hlen ⊢; omega) ?_ ?_ hs' h'
      · intro i hi
        by_cases hik : i = k
        · subst hik
          simp [hsz, hklt]
        · exact getD_set_true (h1 i (by omega))
      · intro i hi hi'
        rw [getD_set_ne true (by omega)]
        exact h2 i (by omega) hi'
    refine ⟨fun h0 => (by rw [h0] at hkr; cases hkr), fun i hi => ?_⟩
    obtain rfl := only i hi
    unfold wpOp
    simp only [List.getElem?_toArray, h0]
    rw [wanted_eq]
    cases hwt : wantE ops n E o
    · simp only [Bool.false_eq_true, if_false]
      rw [act_put]
      exact next _ w hs (h.2 hwt)
    · simp only [if_true]
      exact .inl ((h.1 hwt).wp hs rfl fun v w' hs' hk' => next v w' hs' hk')

theorem lex_sound (hok : LexOk ops kd m Ms) {tail : List Oper} (htail : ∀ j, tail[j]? = ops[m + j]?) {w0 : World} {Q : Exit → Act → World → Prop} (hQ : ∀ E w, Same w0 w → K E w.heap → Q .normal (act n E) w) :
    ∀ (r : Nat) (L : List Nat) (listed : Array Bool) (E : Env) (w : World) (Hc : Heap) (M : List Nat) (N : List NF), L.length = r → L.Pairwise (· < ·) → (∀ i, i ∈ L ↔ i < m ∧ listed.getD i true = false) →
      listed.size = ops.length → (∀ i, m ≤ i → i < ops.length → listed.getD i true = false) → Closed ops listed → Same w0 w → Grow kd Hc w.heap → Keep M0 H0 w.heap → H0.size ≤ Hc.size →
      (∀ x ∈ N, w.heap[x.g]? = some x.o ∧ x.g ∉ M) → (∀ b ∈ M, (b < H0.size → b ∈ M0) ∧ b < Hc.size) →
      Lex P n ops kd Ms H0 M0 (fun E H => Seq P n ops K tail E H) L E Hc M N → wpAny P .any ops.toArray Q (r + tail.length) listed (act n E) w := by
  have hlen : m + tail.length = ops.length := by
    have h1 := hok.le
    rcases Nat.lt_trichotomy (m + tail.length) ops.length with h | h | h
    · have := htail tail.length
      rw [List.getElem?_eq_none (Nat.le_refl _), List.getElem?_eq_getElem h] at this
      cases this
    · exact h
    · have hlt : ops.length - m < tail.length := by omega
      have := htail (ops.length - m)
      rw [List.getElem?_eq_getElem hlt, List.getElem?_eq_none (by omega)] at this
      cases this
  intro r
  induction r with
  | zero =>
    intro L listed E w Hc M N hL hpw hmem hsz hun hcl hs hx hk h0 hN hM h
    have : L = [] := List.eq_nil_of_length_eq_zero hL
    subst this
    rw [Nat.zero_add]
    refine tail_sound hok hQ tail m listed E w hsz htail (Nat.le_refl _) hlen ?_ hun hs (h w.heap hx hk hN)
    intro i hi
    have hle := hok.le
    cases hb : listed.getD i true
    · exact absurd ((hmem i).2 ⟨hi, hb⟩) (by simp)
    · rw [getD_tf (by omega) false true]; exact hb
  | succ r ih =>
    intro L listed E w Hc M N hL hpw hmem hsz hun hcl hs hx hk h0 hN hM h
    rw [Nat.succ_add]
    have hle := hok.le
    have key : ∀ i ∈ Region.ready .any ops.toArray listed, wpOp P ops.toArray Q i (wpAny P .any ops.toArray Q (r + tail.length) (listed.setIfInBounds i true)) (act n E) w := by
      intro i hi
      obtain ⟨hu, oi, hoi, hall⟩ := mem_ready.1 hi
      have hoi : ops[i]? = some oi := by simpa using hoi
      have hilt := (List.getElem?_eq_some_iff.1 hoi).1
      -- what stands ahead of i in every order has come up
      have hanc := hcl.link hok i oi hoi hall
      have notyet : ∀ k, k ∈ L → (nthN Ms i).testBit k = false := by
        intro k hk
        cases hb : (nthN Ms i).testBit k
        · rfl
        · have h1 := hanc k hb
          have h2 := ((hmem k).1 hk)
          rw [getD_tf (by omega) false true, h2.2] at h1
          cases h1
      have him : i < m := by
        rcases Nat.lt_or_ge i m with h | h
        · exact h
        · exfalso
          obtain ⟨k, hkL⟩ : ∃ k, k ∈ L := by
            cases L with
            | nil => simp at hL
            | cons k _ => exact ⟨k, by simp⟩
          have := (hok.pair i k oi hoi (by have := ((hmem k).1 hkL).1; omega) (notyet k hkL)).1
          omega
      obtain ⟨L1, L2, rfl⟩ := List.append_of_mem ((hmem i).2 ⟨him, hu⟩)
      rw [List.pairwise_append] at hpw
      obtain ⟨hp1, hp2, hp3⟩ := hpw
      have hpair : ∀ h ∈ L1, h < i ∧ kdOk (nthK kd h) (nthK kd i) = true ∧ ∃ oh, ops[h]? = some oh ∧ Ap ops oh oi := by
        intro h hh
        have hlt := hp3 h hh i (by simp)
        have := hok.pair i h oi hoi hlt (notyet h (by simp [hh]))
        exact ⟨hlt, this.2.1, this.2.2⟩
      have hap : ∀ h ∈ L1, ∃ oh, ops[h]? = some oh ∧ Ap ops oh oi := fun h hh => (hpair h hh).2.2
      have next : ∀ (E' : Env) (w' : World) (Hc' : Heap) (M' : List Nat) (N' : List NF), Same w0 w' → Grow kd Hc' w'.heap → Keep M0 H0 w'.heap → H0.size ≤ Hc'.size → (∀ x ∈ N', w'.heap[x.g]? = some x.o ∧ x.g ∉ M') → (∀ b ∈ M', (b < H0.size → b ∈ M0) ∧ b < Hc'.size) →
          Lex P n ops kd Ms H0 M0 (fun E H => Seq P n ops K tail E H) (L1 ++ L2) E' Hc' M' N' → wpAny P .any ops.toArray Q (r + tail.length) (listed.setIfInBounds i true) (act n E') w' := by
        intro E' w' Hc' M' N' hs' hx' hk' h0' hN' hM' hl
        refine ih (L1 ++ L2) _ E' w' Hc' M' N' ?_ ?_ ?_ (by simpa using hsz) ?_ (hcl.set hoi hall) hs' hx' hk' h0' hN' hM' hl
        · simp at hL ⊢; omega
        · rw [List.pairwise_append]
          rw [List.pairwise_cons] at hp2
          exact ⟨hp1, hp2.2, fun a ha b hb => hp3 a ha b (by simp [hb])⟩
        · intro k
          have hk1 := hmem k
          rw [List.pairwise_cons] at hp2
          by_cases hki : k = i
          · subst hki
            constructor
            · intro hk
              exfalso
              rcases List.mem_append.1 hk with hk | hk
              · exact absurd (hp3 k hk k (by simp)) (Nat.lt_irrefl _)
              · exact absurd (hp2.1 k hk) (Nat.lt_irrefl _)
            · rintro ⟨_, hk⟩
              simp [hsz, hilt] at hk
          · rw [getD_set_ne true (Ne.symm hki), ← hk1]
            simp [hki]
        · intro k hk hk'
          rw [getD_set_ne true (by omega)]
          exact hun k hk hk'
      unfold wpOp
      simp only [List.getElem?_toArray, hoi]
      rw [wanted_eq]
      cases hwt : wantE ops n E oi
      · simp only [Bool.false_eq_true, if_false]
        rw [act_put]
        exact next _ w Hc M N hs hx hk h0 hN hM (Lex.skip hok.sel hoi L1 E Hc M N hap hwt h)
      · simp only [if_true]
        refine .inl ?_
        obtain ⟨fq, fn⟩ := Lex.find hok.sel hoi L1 E Hc M N w.heap hap hx hk hN (fun b hb => ⟨(hM b hb).1, Nat.lt_of_lt_of_le (hM b hb).2 hx.1.size⟩) (Nat.le_trans h0 hx.1.size) hwt h
        cases hki : nthK kd i
        · obtain ⟨v, hv⟩ := fq hki
          refine (Yld.step (K := fun u H => u = v ∧ H = w.heap) (hv w.heap hk) ⟨rfl, rfl⟩).wp hs rfl ?_
          rintro u w' hs' ⟨rfl, hw'⟩
          exact next _ w' Hc M N hs' (by rw [hw']; exact hx) (by rw [hw']; exact hk) h0 (by rw [hw']; exact hN) hM (Lex.frontQ hok.sel hoi hki L1 E Hc M N hap hwt hv h)
        · obtain ⟨Q0, hQ0⟩ := fn hki
          obtain ⟨vr, obj, wr, hrun, hsr, hwr, -⟩ := hQ0 w
          have hreal : ∀ Q, Nyq P n oi E Q → Q w.heap.size vr obj := by
            intro Q hQ
            obtain ⟨v2, ob2, w2, hrun2, -, hw2, hq⟩ := hQ w
            rw [hrun] at hrun2
            injection hrun2 with e1 e2
            injection e1 with e1
            subst e1 e2
            rw [hwr] at hw2
            have := congrArg (fun a : Array Obj => a.back?) hw2
            simp only [Array.back?_push, Option.some.injEq] at this
            rw [this]
            exact hq
          have hstep : StepUpon P w0 (fun u H => u = vr ∧ H = w.heap.push obj) ((execOp (ev n E) oi).run P w) := by
            rw [hrun]
            exact ⟨hs.trans hsr, rfl, hwr⟩
          refine wpOf hstep ?_
          rintro u w' hs' ⟨rfl, hw'⟩
          refine next _ w' Hc M (⟨i, w.heap.size, obj⟩ :: N) hs' (by rw [hw']; exact hx.push hki _) (by rw [hw']; exact hk.trans ((Ext.push _ _).keep _)) h0 ?_ hM
            (Lex.frontN hok.sel hoi hki (Nat.le_trans h0 hx.1.size) L1 E Hc M N (fun h hh => ⟨hap h hh, ?_⟩) hwt hreal (fun x hx e => by have := (Array.getElem?_eq_some_iff.1 (hN x hx).1).1; omega) h)
          · intro x hxm
            rw [hw']
            rcases List.mem_cons.1 hxm with rfl | hxm
            · refine ⟨by simp, fun hm => ?_⟩
              exact absurd (Nat.lt_of_lt_of_le (hM _ hm).2 hx.1.size) (Nat.lt_irrefl _)
            · obtain ⟨h1, h2⟩ := hN x hxm
              have hlt := (Array.getElem?_eq_some_iff.1 h1).1
              exact ⟨by rw [(Ext.push w.heap obj).at_ _ hlt]; exact h1, h2⟩
          · cases hb : (nthN Ms h).testBit i
            · rfl
            · obtain ⟨oh, hoh, _⟩ := hap h hh
              have : ∀ (j : Nat) oj, ops[j]? = some oj → ∀ i, (nthN Ms j).testBit i = true → i < j := by
                intro j
                induction j using Nat.strongRecOn with
                | ind j ihj =>
                  intro oj hj i hi
                  obtain ⟨e, he, hb, h⟩ := hok.link j oj i hj hi
                  have hlt := hok.edge j oj hj e he hb
                  rcases h with h | h
                  · omega
                  · have hlen : e.on < ops.length := Nat.lt_trans hlt (List.getElem?_eq_some_iff.1 hj).1
                    have := ihj e.on hlt ops[e.on] (List.getElem?_eq_getElem hlen) i h
                    omega
              have := this h oh hoh i hb
              have := (hpair h hh).1
              omega
        · have hq : ∀ h ∈ L1, (∃ oh, ops[h]? = some oh ∧ Ap ops oh oi) ∧ nthK kd h = .q := by
            intro h hh
            refine ⟨hap h hh, ?_⟩
            have := (hpair h hh).2.1
            rw [hki] at this
            cases hkh : nthK kd h
            · rfl
            · rw [hkh] at this; cases this
            · rw [hkh] at this; cases this
          refine (Lex.frontE hok.sel hoi hki L1 E Hc M N hq hwt h w.heap hx hk fun x hx _ => hN x hx).wp hs rfl ?_
          rintro v w' hs' ⟨G, M', N1, hG, hkeep, hM', hN1, hl⟩
          refine next _ w' w'.heap M' N1 hs' (Grow.refl _ _) (keepStep hk hkeep ?_) (Nat.le_trans hk.size hkeep.size) ?_ ?_ hl
          · intro b hb hlt
            rcases List.mem_append.1 hb with hb | hb
            · have := (hG b hb).1; omega
            · exact (hM b hb).1 hlt
          · intro x hxm
            obtain ⟨hxN, hxG⟩ := hN1 x hxm
            obtain ⟨h1, h2⟩ := hN x hxN
            have hlt := (Array.getElem?_eq_some_iff.1 h1).1
            refine ⟨by rw [hkeep.at_ _ hlt (fun h => (List.mem_append.1 h).elim hxG h2)]; exact h1, fun hm => ?_⟩
            rcases (hM' _ hm).1 with h | h | h
            · exact h2 h
            · exact hxG h
            · omega
          · intro b hb
            obtain ⟨h1, h2⟩ := hM' b hb
            refine ⟨fun hlt => ?_, h2⟩
            rcases h1 with h1 | h1 | h1
            · exact (hM b h1).1 hlt
            · have := (hG b h1).1; omega
            · have := hk.size
              omega
    refine ⟨fun hnil => ?_, key⟩
    exfalso
    cases L with
    | nil => simp at hL
    | cons i L' =>
      have hi := (hmem i).1 (by simp)
      have hilt : i < ops.length := by omega
      have hr : i ∈ Region.ready .any ops.toArray listed := by
        refine mem_ready.2 ⟨hi.2, ops[i], by simp [hilt], fun e he hb => ?_⟩
        have hlt := hok.edge i ops[i] (List.getElem?_eq_getElem hilt) e he hb
        cases hbb : listed.getD e.on true
        · have hm := (hmem e.on).2 ⟨by omega, hbb⟩
          rw [List.pairwise_cons] at hpw
          rcases List.mem_cons.1 hm with h | h
          · omega
          · have := hpw.1 _ h
            omega
        · rw [getD_tf (by omega) false true]; exact hbb
      rw [hnil] at hr
      cases hr

/-- A region that draws its order: the head is walked in the order of the text, each operation in whatever heap it may meet; the tail stands behind all. -/
theorem wpRegionD {id : Nat} {ops : List Oper} {N R : Env → Heap → Prop} {X : Nat → Env → Heap → Prop} {E : Env} {H : Heap} (hm : P.follows .mixedOrders = true) (kd : List Kd) (m : Nat) (Ms : List Nat) (M : List Nat)
    (hok : lexOk ops kd m Ms = true) (tail : List Oper) (htail : ops.drop m = tail) (L : List Nat) (hL : List.range m = L) (hM : ∀ b ∈ M, b < H.size)
    (h : Lex P n ops kd Ms H M (fun E H => Seq P n ops N tail E H) L E H M []) : WP P n (.region id ops.toArray true) N R X E H := by
  subst hL
  intro w0 w hs hw
  have hok := LexOk.of hok
  refine wp_region_any hm ?_
  have hlen : ops.toArray.size = m + tail.length := by
    have := hok.le
    rw [← htail, List.length_drop, List.size_toArray]
    omega
  rw [hlen]
  subst hw
  refine lex_sound hok (K := N) (tail := tail) (fun j => by rw [← htail, List.getElem?_drop]) (Q := post w0 n N R X) (fun E w hs h => ⟨hs, E, rfl, h⟩) m (List.range m) _ E { w with drawn := w.drawn + 1 } w.heap M [] (by simp) List.pairwise_lt_range ?_ ?_ ?_ ?_ ⟨hs.os, hs.tape, hs.output⟩ (Grow.refl _ _) (Keep.refl _ _) (Nat.le_refl _) (by simp) (fun b hb => ⟨fun _ => hb, hM b hb⟩) h
  · intro i
    have := hok.le
    simp only [List.mem_range]
    constructor
    · intro hi
      refine ⟨hi, ?_⟩
      have : i < m + tail.length := by omega
      simp [this]
    · exact fun h => h.1
  · rw [← hlen]; simp
  · intro i h1 h2
    have : i < m + tail.length := by rw [← hlen]; simpa using h2
    simp [this]
  · intro j oj hj hl
    have hlt : j < m + tail.length := by rw [← hlen]; simpa using (List.getElem?_eq_some_iff.1 hj).1
    simp [hlt] at hl
end
end Go.Proofs.Ytcfnmklbkhibgaa
