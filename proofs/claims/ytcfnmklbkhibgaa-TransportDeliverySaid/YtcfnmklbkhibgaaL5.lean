/- Package link: the place of a copy; what New and Send return. -/
import Derived.Test.YtcfnmklbkhibgaaL4
namespace Go.Proofs.Ytcfnmklbkhibgaa
open Go.RowKit

set_option maxRecDepth 100000 in
theorem send1_c (x : FH) (n : Int) (H : Heap) (h : In64 (x.due - n)) : CallsH Try.prog 82 [.agg (eFH.F x).toArray, .int .i64 n] H fun v H' => v = .int .i64 (x.due - n) ∧ Ext H H' := by
  refine callsH_of Try.func82 rfl Try.ntmps82 (Nat.le_of_ble_eq_true rfl) ?_
  refine wpSeq fun F1 hF1 => ?_
  refine wpRegion ?_
  refine seqN rfl rfl (nBoxA rfl rfl) (fun g2 H2 hx2 hB2 hg2 hl2 => ?_)
  refine seqQ rfl rfl (yAssign (v := .int _ _) rfl rfl) ?_
  refine seqNil ?_
  refine hF1 _ _ ?_; clear hF1
  refine wpSeq fun F2 hF2 => ?_
  refine wpRegion ?_
  refine seqQ rfl rfl (yFieldAddr rfl Try.underlying98 rfl Try.sizeOf3 rfl rfl) ?_
  refine seqQ rfl rfl (yLoad rfl Try.underlying3 rfl rfl (hB2.cell rfl)) ?_
  refine seqQ rfl rfl (yMove (v := .int _ _) rfl rfl) ?_
  refine seqQ rfl rfl (ySub rfl rfl rfl h) ?_
  refine seqQ rfl rfl (yAssign (v := .int _ _) rfl rfl) ?_
  refine seqNil ?_
  refine hF2 _ _ ?_; clear hF2
  -- ret
  refine wpRet (fin1 (v := .int _ _) rfl rfl ?_)
  exact ⟨rfl, hx2⟩
set_option maxRecDepth 100000 in
theorem shr1 (n : Nat) : ((n : Nat) : Int).fdiv (2 ^ (1 : Int).toNat) = ((n / 2 : Nat) : Int) := by
  rw [Int.fdiv_eq_ediv_of_nonneg _ (by decide)]
  show (n : Int) / 2 = _
  omega
set_option maxRecDepth 100000 in
theorem bsF_c (A : Option Addr) (c : Nat) (l : List FH) (n : Int) (H : Heap) (hA : Rd eFH H A l) (hl : l.length ≤ 100000) (h64 : ∀ x ∈ l, In64 (x.due - n)) (hs : ∀ (i j : Nat) (hi : i < l.length) (hj : j < l.length), i ≤ j → l[i].due ≤ l[j].due) :
    CallsH Try.prog 81 [.slice A l.length c, .int .i64 n, .func (.func 82) #[] #[]] H fun v H' => ∃ (k : Nat) (b : Bool), v = .tuple #[.int .i64 k, .bool b] ∧ k ≤ l.length ∧ (∀ (j : Nat) (hj : j < l.length), j < k → l[j].due < n) ∧ (∀ (j : Nat) (hj : j < l.length), k ≤ j → n ≤ l[j].due) ∧ Ext H H' := by
  refine callsH_of Try.func81 rfl Try.ntmps81 (Nat.le_of_ble_eq_true rfl) ?_
  refine wpSeq fun F1 hF1 => ?_
  refine wpRegion ?_
  refine seqQ rfl rfl (yAssign (v := .int _ _) rfl rfl) ?_
  refine seqQ rfl rfl (yAssign (v := .bool _) rfl rfl) ?_
  refine seqNil ?_
  refine hF1 _ _ ?_; clear hF1
  refine wpSeq fun F2 hF2 => ?_
  refine wpRegion ?_
  refine seqQ rfl rfl (yMove (v := .slice _ _ _) rfl rfl) ?_
  refine seqQ rfl rfl (yLen rfl Try.underlying63 rfl) ?_
  refine seqQ rfl rfl (yAssign (v := .int _ _) rfl rfl) ?_
  refine seqNil ?_
  refine hF2 _ _ ?_; clear hF2
  refine wpSeq fun F3 hF3 => ?_
  refine wpRegion ?_
  refine seqQ rfl rfl (yMove (v := .int _ _) rfl rfl) ?_
  refine seqQ rfl rfl (yAssign (v := .int _ _) rfl rfl) ?_
  refine seqQ rfl rfl (yAssign (v := .int _ _) rfl rfl) ?_
  refine seqNil ?_
  refine hF3 _ _ ?_; clear hF3
  refine wpSeq fun F4 hF4 => ?_
  -- loop
  refine wpBlock ?_
  refine wpLoopS [9, 10, 11, 15, 16, 17, 18, 19, 20, 21, 22, 23, 24, 25, 26, 27, 28, 29, 30, 31, 32, 33, 34] (fun x : Nat × Nat => [(9, .int .i64 x.1), (10, .int .i64 x.2)]) (fun x H' => x.1 ≤ x.2 ∧ x.2 ≤ l.length ∧ (∀ (j : Nat) (hj : j < l.length), j < x.1 → l[j].due < n) ∧ (∀ (j : Nat) (hj : j < l.length), x.2 ≤ j → n ≤ l[j].due) ∧ Ext H H') (fun x => x.2 - x.1) (0, l.length) ⟨rfl, rfl, trivial⟩ ⟨Nat.zero_le _, Nat.le_refl _, fun j hj h => absurd h (by omega), fun j hj h => absurd h (by dsimp only; omega), Ext.refl _⟩ ?_
  rintro ⟨a, b⟩ J H1 ⟨hab, hbl, hlo, hhi, hE⟩
  dsimp only at hab hbl hlo hhi
  refine wpSeq fun F5 hF5 => ?_
  refine wpSeq fun F6 hF6 => ?_
  refine wpRegion ?_
  refine seqQ rfl rfl (yMove (v := .int _ _) rfl rfl) ?_
  refine seqQ rfl rfl (yMove (v := .int _ _) rfl rfl) ?_
  refine seqQ rfl rfl (yLss rfl rfl rfl) ?_
  refine seqNil ?_
  refine hF6 _ _ ?_; clear hF6
  -- if t17
  refine wpIf rfl (fun hlt => ?_) (fun hlt => ?_)
  · skip
    have hlt : a < b := by dsimp only at hlt; omega
    obtain ⟨h, hh⟩ : ∃ h, h = (a + b) / 2 := ⟨_, rfl⟩
    have hhl : h < l.length := by omega
    obtain ⟨p, rfl, hp⟩ := hA.at hhl
    refine wpSkip ?_
    refine hF5 _ _ ?_; clear hF5
    refine wpBlock ?_
    refine wpSeq fun F7 hF7 => ?_
    refine wpRegion ?_
    refine seqQ rfl rfl (yMove (v := .int _ _) rfl rfl) ?_
    refine seqQ rfl rfl (yMove (v := .int _ _) rfl rfl) ?_
    refine seqQ rfl rfl (yAdd rfl rfl rfl (by unfold In64; dsimp only; omega)) ?_
    refine seqQ rfl rfl (yConv rfl Try.underlying3 Try.underlying143 rfl (show IntKind.u64.wrap ((a : Int) + (b : Int)) = ((a + b : Nat) : Int) by rw [IntKind.wrap_u64]; omega)) ?_
    refine seqQ rfl rfl (yShrE rfl rfl rfl (by decide) (shr1 (a + b))) ?_
    refine seqQ rfl rfl (yConv rfl Try.underlying143 Try.underlying3 rfl (show IntKind.i64.wrap (((a + b) / 2 : Nat) : Int) = (h : Int) by rw [IntKind.wrap_i64]; omega)) ?_
    refine seqQ rfl rfl (yAssign (v := .int _ _) rfl rfl) ?_
    refine seqNil ?_
    refine hF7 _ _ ?_; clear hF7
    refine wpSeq fun F8 hF8 => ?_
    refine wpRegion ?_
    refine seqQ rfl rfl (yMove (v := .func _ _ _) rfl rfl) ?_
    refine seqQ rfl rfl (yMove (v := .slice _ _ _) rfl rfl) ?_
    refine seqQ rfl rfl (yMove (v := .int _ _) rfl rfl) ?_
    refine seqQ rfl rfl (yIdx rfl Try.underlying63 Try.sizeOf98 rfl rfl rfl hhl) ?_
    refine seqQ rfl rfl (yLoadC (cs := eFH.F l[h]) rfl Try.underlying98 rfl Try.sizeOf98 rfl (fun j u hu => hE.cell (hp j u hu))) ?_
    refine seqQ rfl rfl (yMove (v := .int _ _) rfl rfl) ?_
    -- e slot 30: callv t24 t28 t29
    refine seqE rfl rfl (stepCallV (first := []) (cap := []) rfl Try.call82 rfl rfl ?_)
    refine (send1_c l[h] n H1 (h64 _ (List.getElem_mem hhl))).mono ?_
    rintro v H2 ⟨rfl, x2⟩
    refine seqQ rfl rfl (yLss rfl rfl rfl) ?_
    refine seqNil ?_
    refine hF8 _ _ ?_; clear hF8
    -- if t31
    refine wpIf rfl (fun hc => ?_) (fun hc => ?_)
    · skip
      refine wpRegion ?_
      refine seqQ rfl rfl (yMove (v := .int _ _) rfl rfl) ?_
      refine seqQ rfl rfl (yAdd rfl rfl rfl (by unfold In64; omega)) ?_
      refine seqQ rfl rfl (yAssign (v := .int _ _) rfl rfl) ?_
      refine seqNil ?_
      -- end loop
      exact loopEnd (h + 1, b) (by repeat (first | (with_reducible exact Agree.refl _ _) | refine Agree.upd ?_ rfl | refine Agree.over ?_ rfl)) (by dsimp only; omega) ⟨rfl, rfl, trivial⟩ ⟨by dsimp only; omega, hbl, fun j hj hjh => by dsimp only at hjh; have := hs j h hj hhl (by omega); omega, hhi, hE.trans x2⟩
    · skip
      refine wpRegion ?_
      refine seqQ rfl rfl (yMove (v := .int _ _) rfl rfl) ?_
      refine seqQ rfl rfl (yAssign (v := .int _ _) rfl rfl) ?_
      refine seqNil ?_
      -- end loop
      exact loopEnd (a, h) (by repeat (first | (with_reducible exact Agree.refl _ _) | refine Agree.upd ?_ rfl | refine Agree.over ?_ rfl)) (by dsimp only; omega) ⟨rfl, rfl, trivial⟩ ⟨by dsimp only; omega, by dsimp only; omega, hlo, fun j hj hjh => by dsimp only at hjh; have := hs h j hhl hj (by omega); omega, hE.trans x2⟩
  · skip
    obtain rfl : a = b := by dsimp only at hlt; omega
    refine wpExit ?_
    refine hF4 _ _ ?_; clear hF4
    refine wpSeq fun F9 hF9 => ?_
    refine wpRegion ?_
    refine seqQ rfl rfl (yMove (v := .int _ _) rfl rfl) ?_
    refine seqQ rfl rfl (yMove (v := .int _ _) rfl rfl) ?_
    refine seqQ rfl rfl (yMove (v := .int _ _) rfl rfl) ?_
    refine seqQ rfl rfl (yLss rfl rfl rfl) ?_
    -- guard t39
    refine seqG rfl rfl rfl rfl (fun hal => ?_) (fun hal => ?_)
    · skip
      have hal : a < l.length := by dsimp only at hal; omega
      obtain ⟨p, rfl, hp⟩ := hA.at hal
      refine seqQ rfl rfl (yMove (v := .func _ _ _) rfl rfl) ?_
      refine seqQ rfl rfl (yMove (v := .slice _ _ _) rfl rfl) ?_
      refine seqQ rfl rfl (yMove (v := .int _ _) rfl rfl) ?_
      refine seqQ rfl rfl (yIdx rfl Try.underlying63 Try.sizeOf98 rfl rfl rfl hal) ?_
      refine seqQ rfl rfl (yLoadC (cs := eFH.F l[a]) rfl Try.underlying98 rfl Try.sizeOf98 rfl (fun j u hu => hE.cell (hp j u hu))) ?_
      refine seqQ rfl rfl (yMove (v := .int _ _) rfl rfl) ?_
      -- e slot 46: callv t40 t44 t45
      refine seqE rfl rfl (stepCallV (first := []) (cap := []) rfl Try.call82 rfl rfl ?_)
      refine (send1_c l[a] n H1 (h64 _ (List.getElem_mem hal))).mono ?_
      rintro v H2 ⟨rfl, x2⟩
      refine seqQ rfl rfl (yEql rfl rfl rfl) ?_
      refine seqQ rfl rfl (yPickT (v := .bool _) rfl rfl rfl) ?_
      refine seqQ rfl rfl (yAssign (v := .int _ _) rfl rfl) ?_
      refine seqQ rfl rfl (yAssign (v := .bool _) rfl rfl) ?_
      refine seqNil ?_
      refine hF9 _ _ ?_; clear hF9
      -- ret
      refine wpRet (fin2 (v := .int _ _) (v' := .bool _) rfl rfl rfl ?_)
      exact ⟨a, _, rfl, hbl, hlo, hhi, hE.trans x2⟩
    · skip
      refine seqU rfl rfl ?_
      refine seqU rfl rfl ?_
      refine seqU rfl rfl ?_
      refine seqU rfl rfl ?_
      refine seqU rfl rfl ?_
      refine seqU rfl rfl ?_
      refine seqU rfl rfl ?_
      refine seqU rfl rfl ?_
      refine seqQ rfl rfl (yPickF (v := .bool _) rfl rfl rfl) ?_
      refine seqQ rfl rfl (yAssign (v := .int _ _) rfl rfl) ?_
      refine seqQ rfl rfl (yAssign (v := .bool _) rfl rfl) ?_
      refine seqNil ?_
      refine hF9 _ _ ?_; clear hF9
      -- ret
      refine wpRet (fin2 (v := .int _ _) (v' := .bool _) rfl rfl rfl ?_)
      exact ⟨a, _, rfl, hbl, hlo, hhi, hE⟩

/-- The copies with a further one, behind those that are due no later. -/
def insF (l : List Fl) (x : Fl) : List Fl := if 300 ≤ l.length then l else l.takeWhile (fun f => decide (f.1 ≤ x.1)) ++ x :: l.dropWhile (fun f => decide (f.1 ≤ x.1))
def fate (l : Lk) : UInt8 := if l.pat.length = 0 then 0 else l.pat.getD (l.sent.toNat % l.pat.length) 0
def putAll (now : Int) (d : List UInt8) (ds : List Int) (f : List Fl) : List Fl := ds.foldl (fun f t => insF f (now + t, d)) f
def lk0 : Lk := ⟨[], 0, 0, []⟩
def lh0 : LH := ⟨none, 0, [], 0, 0, none, 0, []⟩
set_option maxRecDepth 100000 in
theorem lh0_rd (H : Heap) : LkRd H lh0 := ⟨Rd.nil _ _, Rd.nil _ _, (fun x hx => by cases hx), Nat.le_refl _⟩
/-- A link that lies in blocks from base on. -/
structure LkN (base : Nat) (H : Heap) (l : LH) : Prop where
  rd : LkRd H l
  lP : ∀ p, l.PA = some p → base ≤ p.block
  lF : ∀ p, l.FA = some p → base ≤ p.block
  lD : ∀ x ∈ l.fly, ∀ p, x.A = some p → base ≤ p.block
set_option maxRecDepth 100000 in
theorem LkN.ext {base : Nat} {H H' : Heap} {l : LH} (h : LkN base H l) (hx : Ext H H') : LkN base H' l := ⟨h.rd.ext hx, h.lP, h.lF, h.lD⟩
set_option maxRecDepth 100000 in
theorem LkN.keep {base : Nat} {M : List Nat} {H H' : Heap} {l : LH} (h : LkN base H l) (hK : Keep M H H') (hg : ∀ b ∈ M, b < base) : LkN base H' l :=
  ⟨⟨h.rd.pat.keep hK (fun p e hm => by have := h.lP p e; have := hg _ hm; omega), h.rd.fly.keep hK (fun p e hm => by have := h.lF p e; have := hg _ hm; omega), fun x hx => (h.rd.data x hx).keep hK (fun p e hm => by have := h.lD x hx p e; have := hg _ hm; omega), h.rd.fcap⟩, h.lP, h.lF, h.lD⟩
set_option maxRecDepth 100000 in
theorem LkN.mono {base base' : Nat} {H : Heap} {l : LH} (h : LkN base H l) (hb : base' ≤ base) : LkN base' H l := ⟨h.rd, fun p e => by have := h.lP p e; omega, fun p e => by have := h.lF p e; omega, fun x hx p e => by have := h.lD x hx p e; omega⟩
set_option maxRecDepth 100000 in
theorem lh0_n (base : Nat) (H : Heap) : LkN base H lh0 := ⟨lh0_rd H, (fun p e => by cases e), (fun p e => by cases e), (fun x hx => by cases hx)⟩
set_option maxRecDepth 100000 in
theorem LkOwn.n {H : Heap} {base : Nat} {l : LH} (h : LkOwn H base l) : LkN base H l := ⟨h.rd, h.lowP, fun p e => (h.own.lt p.block (by rw [e]; rfl)).1, h.lowD⟩
/-- What Send returns. -/
def sendL (l : Lk) (d : List UInt8) : Int × Lk := if ¬ ValidL l ∨ l.sent = 1099511627776 then (1, lk0) else if 1000 < d.length then (6, lk0) else (0, { l with sent := l.sent + 1, fly := putAll l.now (arr (fate l) d) (delays (fate l)) l.fly })
def newL (p : List UInt8) : Int × Lk := if 200 < p.length then (6, lk0) else (0, ⟨p, 0, 0, []⟩)

set_option maxRecDepth 100000 in
theorem mem_tw {α : Type} {p : α → Bool} : ∀ {l : List α} {a : α}, a ∈ l.takeWhile p → p a = true
  | [], _, h => by cases h
  | x :: l, a, h => by
    rw [List.takeWhile_cons] at h
    split at h
    · rename_i hx
      rcases List.mem_cons.1 h with rfl | h
      · exact hx
      · exact mem_tw h
    · cases h
set_option maxRecDepth 100000 in
theorem tw_take {α : Type} (p : α → Bool) : ∀ (l : List α) (k : Nat), k ≤ l.length → (∀ (j : Nat) (hj : j < l.length), j < k → p l[j] = true) → (∀ (j : Nat) (hj : j < l.length), j = k → p l[j] = false) → l.takeWhile p = l.take k ∧ l.dropWhile p = l.drop k
  | [], k, hk, _, _ => by simp at hk; subst hk; simp
  | x :: l, 0, _, _, h2 => by
    have := h2 0 (by simp) rfl
    simp at this
    simp [this]
  | x :: l, k + 1, hk, h1, h2 => by
    have hx := h1 0 (by simp) (by omega)
    simp at hx
    obtain ⟨e1, e2⟩ := tw_take p l k (by simpa using hk) (fun j hj hjk => by have := h1 (j + 1) (by simpa using hj) (by omega); simpa using this) (fun j hj hjk => by have := h2 (j + 1) (by simpa using hj) (by omega); simpa using this)
    simp [hx, e1, e2]
/-- In order, within their times, not too long. -/
structure GoodF (now : Int) (f : List Fl) : Prop where
  len : f.length ≤ 300
  srt : f.Pairwise (fun a b => a.1 ≤ b.1)
  rng : ∀ x ∈ f, now < x.1 ∧ x.1 ≤ now + 8 ∧ x.2.length ≤ 1000
set_option maxRecDepth 100000 in
theorem ValidL.good {l : Lk} (h : ValidL l) : GoodF l.now l.fly := by
  obtain ⟨-, -, -, h1, h2⟩ := h
  have hg : ∀ (k : Nat) (hk : k < l.fly.length), l.fly.getD k (0, []) = l.fly[k] := fun k hk => by rw [List.getD_eq_getElem?_getD, List.getElem?_eq_getElem hk]; rfl
  refine ⟨h1, ?_, fun x hx => ?_⟩
  · have step : ∀ (d i : Nat) (hi : i + d < l.fly.length), l.fly[i].1 ≤ l.fly[i + d].1 := by
      intro d
      induction d with
      | zero => intro i hi; exact Int.le_refl _
      | succ d ih =>
        intro i hi
        have e1 := ih i (by omega)
        have e2 := (h2 (i + d + 1) (by omega)).2.2.2 (by omega)
        rw [show i + d + 1 - 1 = i + d by omega, hg (i + d) (by omega), hg (i + d + 1) (by omega)] at e2
        exact Int.le_trans e1 e2
    rw [List.pairwise_iff_getElem]
    intro i j hi hj hij
    have := step (j - i) i (by omega)
    simpa [show i + (j - i) = j by omega] using this
  · obtain ⟨k, hk, rfl⟩ := List.getElem_of_mem hx
    obtain ⟨a, b, c, -⟩ := h2 k hk
    rw [hg k hk] at a b c
    exact ⟨b, c, a⟩
set_option maxRecDepth 100000 in
theorem GoodF.ins {now : Int} {f : List Fl} (h : GoodF now f) {x : Fl} (hx : now < x.1 ∧ x.1 ≤ now + 8 ∧ x.2.length ≤ 1000) : GoodF now (insF f x) := by
  unfold insF
  split
  · exact h
  · rename_i hn
    have e : f = f.takeWhile (fun f => decide (f.1 ≤ x.1)) ++ f.dropWhile (fun f => decide (f.1 ≤ x.1)) := (List.takeWhile_append_dropWhile).symm
    have hlen : (f.takeWhile (fun f => decide (f.1 ≤ x.1))).length + (f.dropWhile (fun f => decide (f.1 ≤ x.1))).length = f.length := by rw [← List.length_append, ← e]
    have hsrt := h.srt
    rw [e, List.pairwise_append] at hsrt
    obtain ⟨s1, s2, s3⟩ := hsrt
    have ht : ∀ a ∈ f.takeWhile (fun f => decide (f.1 ≤ x.1)), a.1 ≤ x.1 := fun a ha => by
      have := mem_tw ha
      simpa using this
    have hd : ∀ b ∈ f.dropWhile (fun f => decide (f.1 ≤ x.1)), x.1 ≤ b.1 := fun b hb => by
      cases hdw : f.dropWhile (fun f => decide (f.1 ≤ x.1)) with
      | nil => rw [hdw] at hb; cases hb
      | cons y r =>
        have hy : ¬ y.1 ≤ x.1 := by
          have := List.head?_dropWhile_not (fun f : Fl => decide (f.1 ≤ x.1)) f
          rw [hdw] at this
          simpa using this
        rw [hdw] at hb s2
        rw [List.pairwise_cons] at s2
        rcases List.mem_cons.1 hb with rfl | hb
        · omega
        · have := s2.1 b hb
          omega
    refine ⟨by rw [List.length_append, List.length_cons]; omega, ?_, fun y hy => ?_⟩
    · rw [List.pairwise_append, List.pairwise_cons]
      exact ⟨s1, ⟨hd, s2⟩, fun a ha b hb => by
        rcases List.mem_cons.1 hb with rfl | hb
        · exact ht a ha
        · exact s3 a ha b hb⟩
    · rcases List.mem_append.1 hy with hy | hy
      · exact h.rng y (by rw [e]; exact List.mem_append.2 (.inl hy))
      · rcases List.mem_cons.1 hy with rfl | hy
        · exact hx
        · exact h.rng y (by rw [e]; exact List.mem_append.2 (.inr hy))
set_option maxRecDepth 100000 in
theorem insF_len {f : List Fl} {x : Fl} : (insF f x).length ≤ f.length + 1 := by
  unfold insF
  split
  · omega
  · have hlen : (f.takeWhile (fun f => decide (f.1 ≤ x.1))).length + (f.dropWhile (fun f => decide (f.1 ≤ x.1))).length = f.length := by rw [← List.length_append, List.takeWhile_append_dropWhile]
    rw [List.length_append, List.length_cons]
    omega
set_option maxRecDepth 100000 in
theorem putAll_full {now : Int} {d : List UInt8} : ∀ (ds : List Int) (f : List Fl), 300 ≤ f.length → putAll now d ds f = f
  | [], f, _ => rfl
  | t :: ds, f, h => by
    have e : insF f (now + t, d) = f := if_pos h
    show putAll now d ds (insF f (now + t, d)) = f
    rw [e, putAll_full ds f h]
set_option maxRecDepth 100000 in
theorem putAll_app (now : Int) (d : List UInt8) (xs ys : List Int) (f : List Fl) : putAll now d (xs ++ ys) f = putAll now d ys (putAll now d xs f) := List.foldl_append
set_option maxRecDepth 100000 in
theorem putAll_take {now : Int} {d : List UInt8} {ds : List Int} {k : Nat} (hk : k < ds.length) (f : List Fl) : putAll now d (ds.take (k + 1)) f = insF (putAll now d (ds.take k) f) (now + ds[k], d) := by
  rw [List.take_succ_eq_append_getElem hk, putAll_app]
  rfl
set_option maxRecDepth 100000 in
theorem GoodF.putAll {now : Int} {d : List UInt8} (hd : d.length ≤ 1000) : ∀ (ds : List Int) {f : List Fl}, GoodF now f → (∀ t ∈ ds, 1 ≤ t ∧ t ≤ 8) → GoodF now (Proofs.Ytcfnmklbkhibgaa.putAll now d ds f)
  | [], f, h, _ => h
  | t :: ds, f, h, hr => by
    have := hr t (by simp)
    exact GoodF.putAll hd ds (h.ins (x := (now + t, d)) ⟨by dsimp only; omega, by dsimp only; omega, hd⟩) fun t ht => hr t (by simp [ht])
end Go.Proofs.Ytcfnmklbkhibgaa
