/- Conversations: the walk. -/
import Derived.Test.YtbanngdijmglbaaN6
namespace Go.Proofs.Ytbanngdijmglbaa
open Go.RowKit

/-- What the walk carries. -/
structure RS where
  i : Nat
  vo : Value
  vb : Value
  ws : List Value
  lhs : List LH
  hs : List Hdr
  c : Conv
def RI (l : List Act) (H : Heap) (gL g6 g7 b : Nat) (x : RS) (H' : Heap) : Prop := x.i ≤ l.length ∧ x.c.n ≤ x.i ∧ ConvI x.c ∧ CM [] gL g6 g7 b x.ws x.lhs x.hs x.c H' ∧ x.ws[16]? = some x.vo ∧ x.ws[17]? = some x.vb ∧ Ext H H' ∧ b ≤ H'.size
set_option maxRecDepth 100000 in
theorem getD_eq {α : Type} {l : List α} {z v : α} {k : Nat} (h : l[k]? = some v) : l.getD k z = v := by
  rw [List.getD_eq_getElem?_getD, h]
  rfl
set_option maxRecDepth 100000 in
theorem getD_row {l : List Bool} {k : Nat} (h : k < l.length) : l[k] = l.getD k false := (getD_lt h).symm
set_option maxRecDepth 100000 in
theorem fin4 {P : Program} {n : Nat} {fn : Func} {R : Value → Heap → Prop} {E : Env} {H : Heap} {t u s r : Nat} {v v' v'' v3 : Value} (hr : fn.results = #[.tmp t, .tmp u, .tmp s, .tmp r]) (hv : ev n E (.tmp t) = v) (hv' : ev n E (.tmp u) = v') (hv'' : ev n E (.tmp s) = v'') (hv3 : ev n E (.tmp r) = v3) (h : R (.tuple #[v, v', v'', v3]) H) : Fin P n fn R E H :=
  ⟨.tuple #[v, v', v'', v3], fun w _ => by
    have h1 : ∀ t, (act n E).tmps.getD t undef = ev n E (.tmp t) := getD_act n E
    simp [results, hr, h1, hv, hv', hv'', hv3], h⟩
set_option maxRecDepth 100000 in
theorem row0_ok (n : Nat) (D : Nat → Prop) (j : Nat) : (List.replicate (n + 1) false).getD j false = true ↔ j < 0 ∧ D j := by
  rw [List.getD_eq_getElem?_getD, List.getElem?_replicate]
  constructor
  · intro h; split at h <;> cases h
  · intro h; exact absurd h.1 (Nat.not_lt_zero j)
set_option maxRecDepth 100000 in
theorem row_step {n k : Nat} {D : Nat → Prop} {w : List Bool} {v : Bool} (hl : w.length = n + 1) (hk : k < n + 1) (hw : ∀ j, w.getD j false = true ↔ j < k ∧ D j) (hv : v = true ↔ D k) : ∀ j, (w.set k v).getD j false = true ↔ j < k + 1 ∧ D j := fun j => by
  rw [getD_setG (by omega)]
  by_cases e : k = j
  · subst e
    rw [if_pos rfl, hv]
    exact ⟨fun h => ⟨by omega, h⟩, fun h => h.2⟩
  · rw [if_neg e, hw]
    exact ⟨fun h => ⟨by omega, h.2⟩, fun h => ⟨by omega, h.2⟩⟩
set_option maxRecDepth 100000 in
theorem elem_rows : Elem Try.prog 69 (.slice none 0 0) 1 24 := by unfold Elem; kernel_rfl
set_option maxRecDepth 100000 in
theorem row_mark {n m r : Nat} {rl : Nat → Nat} {w : List Bool} (hl : w.length = n + 1) (hm : m < n) (hw : ∀ j, w.getD j false = true ↔ j < n ∧ rl j = r) : ∀ j, (w.set m true).getD j false = true ↔ j < n ∧ (rl j = r ∨ some m = some j) := fun j => by
  rw [getD_setG (by omega)]
  by_cases e : m = j
  · subst e
    rw [if_pos rfl]
    exact ⟨fun _ => ⟨hm, .inr rfl⟩, fun _ => rfl⟩
  · rw [if_neg e, hw]
    exact ⟨fun h => ⟨h.1, .inl h.2⟩, fun h => ⟨h.1, h.2.resolve_right fun e2 => e (Option.some.inj e2)⟩⟩
set_option maxRecDepth 100000 in
theorem ConvI.sent_len {c : Conv} (h : ConvI c) {p r : Nat} (hp : p < 4) (hr : r < 4) : (c.sentOf p r).length ≤ c.n := by
  have h1 := congrArg List.length (h.sends p r hp hr).1
  rw [List.length_map, List.length_map] at h1
  have h2 : (sendsE (c.L p) r).length ≤ (c.L p).length := List.length_filter_le _ _
  have h3 := h.len_le hp
  have : c.len p = (c.L p).length := rfl
  omega
set_option maxRecDepth 100000 in
theorem rd_at {α : Type} {f : α → Value} {hf : ∀ x, (f x).oneCell' = true} {H : Heap} {g n cap base : Nat} {e : TypeId} {l : List α} {k : Nat} {x : α} (h : Own (El.of f hf) e H base (.slice (some ⟨g, 0, none⟩) n cap) l) (hk : l[k]? = some x) : cellH H ((⟨g, 0, none⟩ : Addr).add k) = some (f x) := by
  obtain ⟨hlt, e2⟩ := List.getElem?_eq_some_iff.1 hk
  obtain ⟨p, ep, hp⟩ := (Own.rd h).2.at1 hlt
  obtain rfl := Option.some.inj ep
  rw [e2] at hp
  exact hp
/-- The row in work: the first k events have handed on their past; of event k the first m. -/
def ClP (c : Conv) (D : Nat → Prop) (k m : Nat) (w : List Bool) : Prop := ∀ j, w.getD j false = true ↔ (j < c.n ∧ D j) ∨ (∃ k', k' < k ∧ D k' ∧ c.bf k' j) ∨ (j < m ∧ D k ∧ c.bf k j)
set_option maxRecDepth 100000 in
theorem ClP.init {c : Conv} {D : Nat → Prop} {w : List Bool} (h : ∀ j, w.getD j false = true ↔ j < c.n ∧ D j) : ClP c D 0 0 w := fun j => by
  rw [h]
  constructor
  · exact .inl
  · rintro (h1 | ⟨k, h1, -⟩ | ⟨h1, -⟩)
    · exact h1
    · exact absurd h1 (Nat.not_lt_zero k)
    · exact absurd h1 (Nat.not_lt_zero j)
set_option maxRecDepth 100000 in
theorem ClP.self {c : Conv} (ci : ConvI c) {D : Nat → Prop} {w : List Bool} {k m : Nat} (h : ClP c D k m w) (hk : k < c.n) (hm : m ≤ k) : w.getD k false = true ↔ D k := by
  rw [h]
  constructor
  · rintro (h1 | ⟨k', h1, -, h2⟩ | ⟨h1, -⟩)
    · exact h1.2
    · have := ci.inv.bfl k' k (by omega) h2; omega
    · omega
  · exact fun h => .inl ⟨hk, h⟩
set_option maxRecDepth 100000 in
theorem ClP.step {c : Conv} (ci : ConvI c) {D : Nat → Prop} {w : List Bool} {k m : Nat} {v : Bool} (h : ClP c D k m w) (hk : k < c.n) (hm : m < k) (hl : w.length = c.n + 1) (hv : v = (w.getD m false || w.getD k false && (c.before.getD k []).getD m false)) : ClP c D k (m + 1) (w.set m v) := fun j => by
  rw [getD_setG (by omega)]
  have hs := h.self ci hk (by omega)
  by_cases e : m = j
  · subst e
    rw [if_pos rfl, hv, Bool.or_eq_true, Bool.and_eq_true, hs, h m]
    constructor
    · rintro ((h1 | h1 | h1) | ⟨h1, h2⟩)
      · exact .inl h1
      · exact .inr (.inl h1)
      · omega
      · exact .inr (.inr ⟨by omega, h1, h2⟩)
    · rintro (h1 | h1 | ⟨-, h1, h2⟩)
      · exact .inl (.inl h1)
      · exact .inl (.inr (.inl h1))
      · exact .inr ⟨h1, h2⟩
  · rw [if_neg e, h j]
    constructor
    · rintro (h1 | h1 | ⟨h1, h2⟩)
      · exact .inl h1
      · exact .inr (.inl h1)
      · exact .inr (.inr ⟨by omega, h2⟩)
    · rintro (h1 | h1 | ⟨h1, h2⟩)
      · exact .inl h1
      · exact .inr (.inl h1)
      · exact .inr (.inr ⟨by omega, h2⟩)
set_option maxRecDepth 100000 in
theorem ClP.next {c : Conv} (ci : ConvI c) {D : Nat → Prop} {w : List Bool} {k : Nat} (h : ClP c D k k w) (hk : k < c.n) : ClP c D (k + 1) 0 w := fun j => by
  rw [h j]
  constructor
  · rintro (h1 | ⟨k', h1, h2⟩ | ⟨h1, h2⟩)
    · exact .inl h1
    · exact .inr (.inl ⟨k', by omega, h2⟩)
    · exact .inr (.inl ⟨k, by omega, h2⟩)
  · rintro (h1 | ⟨k', h1, h2, h3⟩ | ⟨h1, -⟩)
    · exact .inl h1
    · rcases Nat.lt_or_ge k' k with g | g
      · exact .inr (.inl ⟨k', g, h2, h3⟩)
      · obtain rfl : k' = k := by omega
        exact .inr (.inr ⟨ci.inv.bfl k' j hk h3, h2, h3⟩)
    · exact absurd h1 (Nat.not_lt_zero j)
set_option maxRecDepth 100000 in
theorem ClP.row {c : Conv} {r : Nat} {msg : Option Nat} {w : List Bool} (h : ClP c (fun j => c.rl j = r ∨ msg = some j) c.n 0 w) (hl : w.length = c.n + 1) : RowP c r msg w := ⟨hl, fun j => by
  rw [h j]
  constructor
  · rintro (h1 | ⟨k', h1, h2, h3⟩ | ⟨h1, -⟩)
    · exact .inl h1
    · exact .inr ⟨k', h1, h2, h3⟩
    · exact absurd h1 (Nat.not_lt_zero j)
  · rintro (h1 | ⟨k', h1, h2, h3⟩)
    · exact .inl h1
    · exact .inr (.inl ⟨k', h1, h2, h3⟩)⟩
set_option maxRecDepth 100000 in
theorem LogOwn.lgM {T : List Nat} {B b : Nat} {H : Heap} {N : LH} (h : LogOwn B 72 H (slL N) N.l) (hT : ∀ x ∈ T, x < B) (hb : b ≤ B) : LgM T b H N :=
  ⟨h.own.mono hb, fun g e hm => by have := (h.own.lt g e).1; have := hT g hm; omega, fun x hx => (h.ents x hx).clk.rdM hT⟩
set_option maxRecDepth 100000 in
theorem PairM.put {T : List Nat} {b B : Nat} {H H1 : Heap} {lhs : List LH} (h : PairM lhs) (hl : ∀ L ∈ lhs, LgM T b H L) {r : Nat} {N : LH} (hN : LogOwn B 72 H1 (slL N) N.l) (hB : H.size ≤ B) : PairM (lhs.set r N) :=
  h.set hl (fun g e => by have := (hN.own.lt g e).1; omega) (fun x hx p e => by
    have := ((hN.ents x hx).clk.lt p.block (by rw [e]; rfl)).1
    omega) fun x hx _ p e hb => by
    exact (hN.ents x hx).ac p.block hb (by rw [e]; rfl)
set_option maxHeartbeats 2000000 in
set_option maxRecDepth 100000 in
theorem record_c (l : List Act) (A : Option Addr) (ca : Nat) (H : Heap) (h : Rd eAct H A l) (hl : l.length ≤ 16) :
    CallsH Try.prog 28 [.slice A l.length ca] H fun v H' => ∃ (gL g6 g7 b : Nat) (x : RS), v = .tuple #[.slice (some ⟨gL, 0, none⟩) 4 4, x.vo, x.vb, .bool true] ∧ H.size ≤ gL ∧ RI l H gL g6 g7 b x H' := by
  refine callsH_of Try.func28 rfl Try.ntmps28 (Nat.le_of_ble_eq_true rfl) ?_
  refine wpSeq fun F1 hF1 => ?_
  refine wpRegion ?_
  refine seqQ rfl rfl (yAssign (v := .slice _ _ _) rfl rfl) ?_
  refine seqQ rfl rfl (yAssign (v := .slice _ _ _) rfl rfl) ?_
  refine seqQ rfl rfl (yAssign (v := .slice _ _ _) rfl rfl) ?_
  refine seqQ rfl rfl (yAssign (v := .bool _) rfl rfl) ?_
  refine seqNil ?_
  refine hF1 _ _ ?_; clear hF1
  refine wpSeq fun F2 hF2 => ?_
  refine wpRegion ?_
  -- e slot 20: makeSlice T36 [i:i64:4] [i:i64:4]
  refine seqE rfl rfl (stepMake (c := eLH) (z := ⟨none, 0, []⟩) rfl Try.underlying36 elem_log rfl (by omega) rfl rfl rfl (by decide) ?_)
  intro gL H1 hx1 hgL oL
  refine seqQ rfl rfl (yAssign (v := .slice _ _ _) rfl rfl) ?_
  refine seqNil ?_
  refine hF2 _ _ ?_; clear hF2
  refine wpSeq fun F3 hF3 => ?_
  refine wpRegion ?_
  refine seqN rfl rfl (nAlloc rfl (zero_of zero_sent) rfl) (fun g6 H6 hx6 hB6 hg6 hl6 => ?_)
  refine seqNil ?_
  refine hF3 _ _ ?_; clear hF3
  refine wpSeq fun F4 hF4 => ?_
  refine wpRegion ?_
  refine seqN rfl rfl (nAlloc rfl (zero_of zero_got) rfl) (fun g7 H7 hx7 hB7 hg7 hl7 => ?_)
  refine seqNil ?_
  refine hF4 _ _ ?_; clear hF4
  refine wpSeq fun F5 hF5 => ?_
  refine wpSeq fun F6 hF6 => ?_
  refine wpRegion ?_
  refine seqQ rfl rfl (yMove (v := .slice _ _ _) rfl rfl) ?_
  refine seqQ rfl rfl (yLen rfl Try.underlying65 rfl) ?_
  refine seqQ rfl rfl (yMove (v := .int _ _) rfl rfl) ?_
  refine seqNil ?_
  refine hF6 _ _ ?_; clear hF6
  -- loop
  have z1 := hx1.size
  have gl1 := (oL.lt gL rfl).2
  have z6 := hx6.size
  have z7 := hx7.size
  have cm0 : CM [] gL g6 g7 H7.size (List.replicate 18 (.slice none 0 0)) (List.replicate 4 ⟨none, 0, []⟩) [] conv0 H7 := ⟨by omega, by omega, by omega, rfl, (oL.mono (Nat.zero_le _)).ext (hx6.trans hx7), rfl, rfl, fun L hL => by
      obtain rfl := List.eq_of_mem_replicate hL
      exact ⟨Own.nil _ _, fun g e => (by cases e), fun x hx => (by cases hx)⟩, fun r q L K hL hK => by
      obtain rfl := List.eq_of_mem_replicate (List.mem_of_getElem? hL)
      obtain rfl := List.eq_of_mem_replicate (List.mem_of_getElem? hK)
      exact ⟨fun _ g e => (by cases e), fun x hx => (by cases hx)⟩, hB6.ext hx7, hB7, fun t v ht hv => by
      obtain rfl := List.eq_of_mem_replicate (List.mem_of_getElem? hv)
      have : conv0.sent.getD t [] = [] := by
        show (List.replicate 16 []).getD _ [] = []
        rw [List.getD_eq_getElem?_getD, List.getElem?_replicate]
        split <;> rfl
      rw [this]
      exact Own.nil _ _, fun v hv => by
      obtain rfl := List.eq_of_mem_replicate (List.mem_of_getElem? hv)
      exact Own.nil _ _, fun v hv => by
      obtain rfl := List.eq_of_mem_replicate (List.mem_of_getElem? hv)
      exact Own.nil _ _, All2.nil, fun t u v w _ hv _ => by
      obtain rfl := List.eq_of_mem_replicate (List.mem_of_getElem? hv)
      exact fun g e => (by cases e), fun x hx => (by cases hx)⟩
  have hE7 : Ext H H7 := (hx1.trans hx6).trans hx7
  have hb7 : g7 < H7.size := hl7
  have hB7H : H.size ≤ H7.size := hE7.size
  have hg6H : H.size ≤ g6 := by omega
  have hg7H : H.size ≤ g7 := by omega
  refine wpBlock ?_
  refine wpLoopS [2, 3, 4, 5, 9, 10, 11, 12, 13, 14, 15, 16, 17, 18, 19, 23, 24, 25, 26, 27, 28, 29, 30, 31, 32, 33, 34, 35, 36, 37, 38, 39, 40, 41, 42, 43, 44, 45, 46, 47, 48, 49, 50, 51, 52, 53, 54, 55, 56, 57, 58, 59, 60, 61, 62, 63, 64, 65, 66, 67, 68, 69, 70, 71, 72, 73, 74, 75, 76, 77, 78, 79, 80, 81, 82, 83, 84, 85, 86, 87, 88, 89, 90, 91, 92, 93, 94, 95, 96, 97, 98, 99, 100, 101, 102, 103, 104, 105, 106, 107, 108, 109, 110, 111, 112, 113, 114, 115, 116, 117, 118, 119, 120, 121, 122, 123, 124, 125, 126, 127, 128, 129, 130, 131, 132, 133, 134, 135, 136, 137, 138, 139, 140, 141, 142, 143, 144, 145, 146, 147, 148, 149, 150, 151, 152, 153, 154, 155, 156, 157, 158, 159, 160, 161, 162, 163, 164, 165, 166, 167, 168, 169, 170, 171, 172, 173, 174, 175, 176, 177, 178, 179, 180, 181, 182, 183, 184, 185, 186, 187, 188, 189, 190, 191, 192, 193, 194, 195, 196, 197, 198, 199, 200, 201, 202] (fun x : RS => [(2, .slice (some ⟨gL, 0, none⟩) 4 4), (3, x.vo), (4, x.vb), (23, .int .i64 x.i)]) (RI l H gL g6 g7 H7.size) (fun x => l.length - x.i) ⟨0, .slice none 0 0, .slice none 0 0, _, _, _, conv0⟩ ⟨rfl, rfl, rfl, rfl, trivial⟩ ⟨Nat.zero_le _, Nat.le_refl _, convI_zero, cm0, rfl, rfl, hE7, Nat.le_refl _⟩ ?_
  clear cm0 oL hB6 hB7 hx1 hx6 hx7
  rintro ⟨i, vo, vb, ws, lhs, hs, c⟩ J Hi ⟨hi, hn, ci, cm, hvo, hvb, hE, hbH⟩
  dsimp only at hi hn ci cm hvo hvb
  obtain ⟨OA, oc, rfl, -⟩ := (cm.ord vo hvo).form
  obtain ⟨BA, bc, rfl, -⟩ := (cm.bef vb hvb).form
  refine wpSeq fun F7 hF7 => ?_
  refine wpRegion ?_
  refine seqQ rfl rfl (yLss rfl rfl rfl) ?_
  refine seqNil ?_
  refine hF7 _ _ ?_; clear hF7
  refine wpSeq fun F8 hF8 => ?_
  -- if t24
  refine wpIf rfl (fun hlt => ?_) (fun hlt => ?_)
  · skip
    have hil : i < l.length := by dsimp only at hlt; omega
    obtain ⟨q, eq, hq⟩ := (h.ext hE).at hil
    generalize l[i] = x at *
    refine wpSkip ?_
    refine hF8 _ _ ?_; clear hF8
    refine wpSeq fun F9 hF9 => ?_
    refine wpBlock ?_
    refine wpSeq fun F10 hF10 => ?_
    refine wpRegion ?_
    refine seqQ rfl rfl (yIdxP rfl Try.underlying65 Try.sizeOf117 rfl rfl eq rfl hil) ?_
    refine seqQ rfl rfl (yLoadC (cs := eAct.F x) rfl Try.underlying117 rfl Try.sizeOf117 rfl hq) ?_
    refine seqN rfl rfl (nAlloc rfl Try.zeroValue117 rfl) (fun g9 H9 hx9 hB9 hg9 hl9 => ?_)
    -- e slot None: store T117 t9 t26
    refine seqE0 rfl rfl (stepStoreB rfl (by kernel_rfl) rfl rfl rfl hB9 rfl ?_)
    intro Hb h9 hK9
    have hxb : Ext Hi Hb := hx9.mine hK9 (by simp; omega)
    replace hbH := Nat.le_trans hbH hxb.size
    replace hE := hE.trans hxb
    replace cm := cm.ext hxb
    clear hB9 hK9 hx9 hq
    obtain ⟨r, hr⟩ : ∃ r, r = x.role % 4 := ⟨_, rfl⟩
    obtain ⟨p, hp⟩ : ∃ p, p = x.peer % 4 := ⟨_, rfl⟩
    have hr4 : r < 4 := by omega
    have hp4 : p < 4 := by omega
    have ro := (Own.rd (cm.ord _ hvo)).2
    have hcn : c.n = c.order.length := rfl
    have hn16 : c.order.length ≤ 15 := by omega
    refine seqNil ?_
    refine hF10 _ _ ?_; clear hF10
    refine wpSeq fun F11 hF11 => ?_
    refine wpRegionD Try_mixed [.q, .q, .q, .q, .q, .q, .q, .q, .q, .q] 9 [0, 1, 3, 7, 0, 16, 48, 112, 15, 511] [] (by kernel_rfl) _ rfl [0, 1, 2, 3, 4, 5, 6, 7, 8] rfl (by simp) ?_
    refine lexQ rfl rfl rfl rfl (fun H hM => (yFieldAddr rfl Try.underlying117 rfl Try.sizeOf5 rfl rfl)) ?_
    refine lexQ rfl rfl rfl rfl (fun H hM => (yLoad rfl Try.underlying5 rfl rfl (hM.ext.cell (h9.cell (j := 0) rfl)))) ?_
    refine lexQ rfl rfl rfl rfl (fun H hM => (yRem rfl rfl rfl (by omega))) ?_
    refine lexQ rfl rfl rfl rfl (fun H hM => (yConv rfl Try.underlying5 Try.underlying3 rfl (show IntKind.i64.wrap ((x.role : Int) % 4) = (r : Int) by rw [IntKind.wrap_i64]; omega))) ?_
    refine lexQ rfl rfl rfl rfl (fun H hM => (yFieldAddr rfl Try.underlying117 rfl Try.sizeOf5 rfl rfl)) ?_
    refine lexQ rfl rfl rfl rfl (fun H hM => (yLoad rfl Try.underlying5 rfl rfl (hM.ext.cell (h9.cell (j := 1) rfl)))) ?_
    refine lexQ rfl rfl rfl rfl (fun H hM => (yRem rfl rfl rfl (by omega))) ?_
    refine lexQ rfl rfl rfl rfl (fun H hM => (yConv rfl Try.underlying5 Try.underlying3 rfl (show IntKind.i64.wrap ((x.peer : Int) % 4) = (p : Int) by rw [IntKind.wrap_i64]; omega))) ?_
    refine lexQ rfl rfl rfl rfl (fun H hM => (yAssign (v := .int _ _) rfl rfl)) ?_
    -- tail
    refine lexNil0 rfl (fun hM => ?_)
    refine seqQ rfl rfl (yAssign (v := .int _ _) rfl rfl) ?_
    refine seqNil ?_
    refine hF11 _ _ ?_; clear hF11
    refine wpSeq fun F12 hF12 => ?_
    refine wpSeq fun F13 hF13 => ?_
    refine wpRegionD Try_mixed [.q, .q, .q, .q, .q, .q, .q, .q, .q, .q, .q, .q, .q, .q, .q, .q, .q, .q, .q, .q, .q] 18 [0, 0, 3, 7, 15, 31, 63, 127, 127, 255, 1023, 2047, 127, 127, 4223, 28799, 61567, 127103, 262143, 524287, 1048575] [] (by kernel_rfl) _ rfl [0, 1, 2, 3, 4, 5, 6, 7, 8, 9, 10, 11, 12, 13, 14, 15, 16, 17] rfl (by simp) ?_
    refine lexQ rfl rfl rfl rfl (fun H hM => (yMove (v := .int _ _) rfl rfl)) ?_
    refine lexQ rfl rfl rfl rfl (fun H hM => (yMove (v := .int _ _) rfl rfl)) ?_
    refine lexQ rfl rfl rfl rfl (fun H hM => (yEql rfl rfl rfl)) ?_
    -- guard t38
    by_cases hrp : r = p
    · skip
      rw [decide_eq_true (show (r : Int) = (p : Int) by rw [hrp])]
      refine lexQ rfl rfl rfl rfl (fun H hM => (yMove (v := .bool true) rfl rfl)) ?_
      refine lexU rfl rfl rfl ?_
      refine lexU rfl rfl rfl ?_
      refine lexU rfl rfl rfl ?_
      refine lexU rfl rfl rfl ?_
      refine lexU rfl rfl rfl ?_
      refine lexU rfl rfl rfl ?_
      refine lexU rfl rfl rfl ?_
      refine lexU rfl rfl rfl ?_
      refine lexU rfl rfl rfl ?_
      refine lexU rfl rfl rfl ?_
      refine lexU rfl rfl rfl ?_
      refine lexU rfl rfl rfl ?_
      refine lexU rfl rfl rfl ?_
      refine lexU rfl rfl rfl ?_
      -- tail
      refine lexNil0 rfl (fun hM => ?_)
      refine seqU rfl rfl ?_
      refine seqU rfl rfl ?_
      refine seqQ rfl rfl (yPickT (v := .bool _) rfl rfl rfl) ?_
      refine seqNil ?_
      refine hF13 _ _ ?_; clear hF13
      -- if t55
      refine wpT rfl ?_
      refine wpExit ?_
      refine hF9 _ _ ?_; clear hF9
      refine wpRegion ?_
      refine seqQ rfl rfl (yAdd rfl rfl rfl (by unfold In64; omega)) ?_
      refine seqQ rfl rfl (yMove (v := .int _ _) rfl rfl) ?_
      refine seqNil ?_
      -- end loop
      exact loopEnd ⟨i + 1, _, _, ws, lhs, hs, c⟩ (by repeat (first | (with_reducible exact Agree.refl _ _) | refine Agree.upd ?_ rfl | refine Agree.over ?_ rfl)) (by dsimp only; omega) ⟨rfl, rfl, rfl, rfl, trivial⟩ ⟨hil, by dsimp only; omega, ci, cm, hvo, hvb, hE, hbH⟩
    · skip
      rw [decide_eq_false (show ¬ (r : Int) = (p : Int) by omega)]
      refine lexQ rfl rfl rfl rfl (fun H hM => (yMove (v := .bool false) rfl rfl)) ?_
      refine lexQ rfl rfl rfl rfl (fun H hM => (yFieldAddr rfl Try.underlying117 rfl Try.sizeOf4 rfl rfl)) ?_
      refine lexQ rfl rfl rfl rfl (fun H hM => (yLoad rfl Try.underlying4 rfl rfl (hM.ext.cell (h9.cell (j := 2) rfl)))) ?_
      -- guard t41
      cases hget : x.get
      · skip
        refine lexQ rfl rfl rfl rfl (fun H hM => (yMove (v := .bool false) rfl rfl)) ?_
        refine lexU rfl rfl rfl ?_
        refine lexU rfl rfl rfl ?_
        refine lexU rfl rfl rfl ?_
        refine lexU rfl rfl rfl ?_
        refine lexU rfl rfl rfl ?_
        refine lexU rfl rfl rfl ?_
        refine lexU rfl rfl rfl ?_
        refine lexU rfl rfl rfl ?_
        refine lexU rfl rfl rfl ?_
        refine lexU rfl rfl rfl ?_
        refine lexU rfl rfl rfl ?_
        -- tail
        refine lexNil0 rfl (fun hM => ?_)
        refine seqU rfl rfl ?_
        refine seqQ rfl rfl (yPickF (v := .bool _) rfl rfl rfl) ?_
        refine seqQ rfl rfl (yPickF (v := .bool _) rfl rfl rfl) ?_
        refine seqNil ?_
        refine hF13 _ _ ?_; clear hF13
        -- if t55
        refine wpF rfl ?_
        refine wpSkip ?_
        refine hF12 _ _ ?_; clear hF12
        refine wpSeq fun F14 hF14 => ?_
        refine wpRegion ?_
        refine seqQ rfl rfl (yMove (v := .slice _ _ _) rfl rfl) ?_
        refine seqQ rfl rfl (yLen rfl Try.underlying55 rfl) ?_
        refine seqQ rfl rfl (yAdd rfl rfl rfl (by unfold In64; omega)) ?_
        -- e slot 59: makeSlice T69 t58 t58
        refine seqE rfl rfl (stepMake (c := eBool) (z := false) rfl Try.underlying69 elem_eBool rfl (by omega) rfl rfl (show (c.order.length : Int) + 1 = ((c.n + 1 : Nat) : Int) by unfold Conv.n; omega) (by omega) ?_)
        intro g12 H12 hx12 hg12 ow
        have z12 := hx12.size
        refine seqQ rfl rfl (yAssign (v := .slice _ _ _) rfl rfl) ?_
        refine seqNil ?_
        refine hF14 _ _ ?_; clear hF14
        refine wpSeq fun F15 hF15 => ?_
        refine wpSeq fun F16 hF16 => ?_
        refine wpRegion ?_
        refine seqQ rfl rfl (yMove (v := .slice _ _ _) rfl rfl) ?_
        refine seqQ rfl rfl (yLen rfl Try.underlying55 rfl) ?_
        refine seqQ rfl rfl (yMove (v := .int _ _) rfl rfl) ?_
        refine seqNil ?_
        refine hF16 _ _ ?_; clear hF16
        -- loop
        refine wpBlock ?_
        refine wpLoopS [13, 14, 62, 63, 64, 65, 66, 67, 68, 69, 70, 71, 72, 73, 74] (fun z : Nat × List Bool => [(62, .int .i64 z.1)]) (fun z H' => z.1 ≤ c.n ∧ Ext Hb H' ∧ g12 < H'.size ∧ Own eBool 4 H' Hb.size (.slice (some ⟨g12, 0, none⟩) (c.n + 1) (c.n + 1)) z.2 ∧ z.2.length = c.n + 1 ∧ ∀ j, z.2.getD j false = true ↔ j < z.1 ∧ c.rl j = r) (fun z => c.n - z.1) (0, List.replicate (c.n + 1) false) ⟨rfl, trivial⟩ ⟨Nat.zero_le _, hx12, (ow.lt g12 rfl).2, ow, by simp, row0_ok _ _⟩ ?_
        clear ow z12
        rintro ⟨k, w⟩ Jk Hk ⟨hk, hxk, gk, ow, hwl, hw⟩
        dsimp only at hk ow hwl hw
        refine wpSeq fun F17 hF17 => ?_
        refine wpRegion ?_
        refine seqQ rfl rfl (yLss rfl rfl rfl) ?_
        refine seqNil ?_
        refine hF17 _ _ ?_; clear hF17
        refine wpSeq fun F18 hF18 => ?_
        -- if t63
        refine wpIf rfl (fun hlk => ?_) (fun hlk => ?_)
        · skip
          have hkn : k < c.n := by dsimp only at hlk; omega
          obtain ⟨qo, eqo, hqo⟩ := (ro.ext hxk).at (show k < c.order.length from hkn)
          have erl : c.order[k].1 = c.rl k := congrArg Prod.fst (getD_lt (z := (0, 0)) (show k < c.order.length from hkn)).symm
          refine wpSkip ?_
          refine hF18 _ _ ?_; clear hF18
          refine wpSeq fun F19 hF19 => ?_
          refine wpBlock ?_
          refine wpSeq fun F20 hF20 => ?_
          refine wpRegion ?_
          refine seqQ rfl rfl (yMove (v := .int _ _) rfl rfl) ?_
          refine seqQ rfl rfl (yIdxP rfl Try.underlying55 Try.sizeOf64 rfl rfl eqo rfl hkn) ?_
          refine seqQ rfl rfl (yLoadC (cs := ePl.F c.order[k]) rfl Try.underlying64 rfl Try.sizeOf64 rfl hqo) ?_
          refine seqN rfl rfl (nAlloc rfl Try.zeroValue64 rfl) (fun g14 H14 hx14 hB14 hg14 hl14 => ?_)
          refine seqQ rfl rfl (yAssign (v := .int _ _) rfl rfl) ?_
          -- e slot None: store T64 t14 t66
          refine seqE0 rfl rfl (stepStoreB rfl (by kernel_rfl) rfl rfl rfl hB14 rfl ?_)
          intro Hm h14 hK14
          have hxm : Ext Hk Hm := hx14.mine hK14 (by simp; omega)
          clear hK14 hx14 hB14
          refine seqNil ?_
          refine hF20 _ _ ?_; clear hF20
          refine wpRegion ?_
          refine seqQ rfl rfl (yMove (v := .slice _ _ _) rfl rfl) ?_
          refine seqQ rfl rfl (yMove (v := .int _ _) rfl rfl) ?_
          refine seqQ rfl rfl (yFieldAddr rfl Try.underlying64 rfl Try.sizeOf3 rfl rfl) ?_
          refine seqQ rfl rfl (yLoad rfl Try.underlying3 rfl rfl (h14.cell (j := 0) rfl)) ?_
          refine seqQ rfl rfl (yMove (v := .int _ _) rfl rfl) ?_
          refine seqQ rfl rfl (yEql rfl rfl rfl) ?_
          refine seqQ rfl rfl (yIdx1 rfl Try.underlying69 Try.sizeOf4 rfl rfl rfl (show k < c.n + 1 by omega)) ?_
          -- e slot None: store T4 t73 t72
          refine seqE0 rfl rfl (stepStoreOwn (ow.ext hxm) rfl Try.sizeOf4 rfl rfl rfl rfl (by omega) ?_)
          intro Hs os hKs
          have hxs := (hxk.trans hxm).mine hKs (by simp; exact hg12)
          refine seqNil ?_
          refine hF19 _ _ ?_; clear hF19
          refine wpRegion ?_
          refine seqQ rfl rfl (yAdd rfl rfl rfl (by unfold In64; omega)) ?_
          refine seqQ rfl rfl (yMove (v := .int _ _) rfl rfl) ?_
          refine seqNil ?_
          -- end loop
          exact loopEnd (k + 1, _) (by repeat (first | (with_reducible exact Agree.refl _ _) | refine Agree.upd ?_ rfl | refine Agree.over ?_ rfl)) (by dsimp only; omega) ⟨rfl, trivial⟩ ⟨hkn, hxs, by have := hxm.size; have := hKs.size; omega, os, by dsimp only; rw [List.length_set]; exact hwl, row_step hwl (by omega) hw (by simp [erl]; omega)⟩
        obtain rfl : k = c.n := by dsimp only at hlk; omega
        have hxc := hxk
        clear hxk
        have cmk := cm.addX hbH hxc hg12 gk
        have hsl := ci.sent_len hr4 hp4
        have h18 := cm.w18
        obtain ⟨sv, hsv⟩ : ∃ v, ws[r * 4 + p]? = some v := ⟨_, List.getElem?_eq_getElem (by omega)⟩
        have hsv2 : (ws.take 16)[r * 4 + p]? = some sv := by rw [List.getElem?_take_of_lt (by omega)]; exact hsv
        have osv := cmk.rows (r * 4 + p) sv (by omega) hsv
        have esv : c.sent.getD (r * 4 + p) [] = c.sentOf r p := by rw [Nat.mul_comm]; rfl
        rw [esv] at osv
        have hM0 : ∀ b ∈ sv.ownBlock.toList, H7.size ≤ b ∧ b < Hk.size := fun b hb => by rw [Option.mem_toList] at hb; exact osv.lt b hb
        have hg12s : g12 ∉ sv.ownBlock.toList := fun hb => by rw [Option.mem_toList] at hb; exact (cmk.xs g12 (.head _)).2.2 _ _ hsv hb
        obtain ⟨SA, sc, rfl, -⟩ := osv.form
        have etl : (tI (c.sentOf r p)).length = (c.sentOf r p).length := tI_len _
        refine wpExit ?_
        refine hF15 _ _ ?_; clear hF15
        refine wpSeq fun F21 hF21 => ?_
        refine wpRegion ?_
        refine seqQ rfl rfl (yAssign (v := .slice _ _ _) rfl rfl) ?_
        refine seqNil ?_
        refine hF21 _ _ ?_; clear hF21
        refine wpSeq fun F22 hF22 => ?_
        refine wpRegion ?_
        refine seqQ rfl rfl (yAssign (v := .int _ _) rfl rfl) ?_
        refine seqNil ?_
        refine hF22 _ _ ?_; clear hF22
        refine wpSeq fun F23 hF23 => ?_
        refine wpSeq fun F24 hF24 => ?_
        refine wpRegion ?_
        refine seqQ rfl rfl (yFieldAddr rfl Try.underlying117 rfl Try.sizeOf4 rfl rfl) ?_
        refine seqQ rfl rfl (yLoad rfl Try.underlying4 rfl rfl (show cellH Hk ((⟨g9, 0, none⟩ : Addr).add 2) = some (.bool false) from hxc.cell (by rw [← hget]; exact h9.cell (j := 2) rfl))) ?_
        refine seqNil ?_
        refine hF24 _ _ ?_; clear hF24
        -- if t76
        refine wpF rfl ?_
        refine wpSeq fun F25 hF25 => ?_
        refine wpRegionD Try_mixed [.q, .q, .q, .q, .q, .q, .q, .q, .q, .n, .e, .q, .q, .e] 12 [0, 0, 0, 0, 4, 28, 60, 0, 128, 384, 1020, 1, 4095, 8191] (Value.slice SA (tI (c.sentOf r p)).length sc).ownBlock.toList (by kernel_rfl) _ rfl [0, 1, 2, 3, 4, 5, 6, 7, 8, 9, 10, 11] rfl (fun b hb => (hM0 b hb).2) ?_
        refine lexQ rfl rfl rfl rfl (fun H hM => (yMove (v := .int _ _) rfl rfl)) ?_
        refine lexQ rfl rfl rfl rfl (fun H hM => (yMove (v := .int _ _) rfl rfl)) ?_
        refine lexQ rfl rfl rfl rfl (fun H hM => (yMove (v := .int _ _) rfl rfl)) ?_
        refine lexQ rfl rfl rfl rfl (fun H hM => (yMove (v := .int _ _) rfl rfl)) ?_
        refine lexQ rfl rfl rfl rfl (fun H hM => (yIdxA rfl Try.underlying113 Try.sizeOf112 rfl rfl rfl hr4)) ?_
        refine lexQ rfl rfl rfl rfl (fun H hM => (yIdxA1 rfl Try.underlying112 Try.sizeOf27 rfl rfl rfl hp4)) ?_
        refine lexQ rfl rfl rfl rfl (fun H hM => (yLoad rfl Try.underlying27 rfl rfl (hM.cell (show cellH Hk (((⟨g6, 0, none⟩ : Addr).add (r * 4)).add p) = some (.slice SA (tI (c.sentOf r p)).length sc) from by rw [add_of_add]; exact cmk.sent.cell hsv2) (fun hm => by have := (hM0 _ hm).1; simp only [block_of_add] at this; omega)))) ?_
        refine lexQ rfl rfl rfl rfl (fun H hM => (yMove (v := .slice _ _ _) rfl rfl)) ?_
        refine lexQ rfl rfl rfl rfl (fun H hM => (yLen rfl Try.underlying55 rfl)) ?_
        refine lexNB rfl rfl rfl rfl (nBuildSlice (vs := [.int _ _]) rfl Try.underlying27 Try.sizeOf3 Try.zeroValue3 rfl rfl rfl rfl) (fun g133 hg133 hne133 => ?_)
        -- e slot 134: builtin append t130 t133 : [27, 27]
        refine lexE rfl rfl rfl rfl (fun H134 hX134 hM134 hN134 => stepApp (c := eInt) (osv.ext hX134) rfl Try.underlying27 elem_eInt rfl (by omega) rfl rfl rfl (Blk.rd (c := eInt) (l := [(c.order.length : Int)]) (Made.blk hN134 (.head _) rfl)) (by rw [List.length_singleton]; omega) (by have := hX134.size; omega) ?_)
        intro v1 H6 o6 gr1
        refine lexGrew gr1 (fun g e => by rw [Option.mem_toList]; exact e) (fun b hb => ?_) (fun g e => (o6.lt g e).2) ?_
        · have := hX134.size
          have := (hM0 b hb).2
          omega
        rw [show tI (c.sentOf r p) ++ [(c.order.length : Int)] = tI (c.sent.getD (r * 4 + p) [] ++ [c.n]) from by rw [esv]; unfold tI; rw [List.map_append]; rfl] at o6
        obtain ⟨V1, c1, rfl, -⟩ := o6.form
        refine lexQ rfl rfl rfl rfl (fun H hM => (yIdxA rfl Try.underlying113 Try.sizeOf112 rfl rfl rfl hr4)) ?_
        -- tail
        refine lexNil (fun Hf hXf hMf hNf => ?_)
        have k6 : Blk Hf g6 (ws.take 16) 113 := ((cmk.sent.ext hX134).keep gr1.1 (fun hm => by have := (hM0 _ hm).1; omega)).ext hXf
        have h9f := hg12s
        have owf : Own eBool 4 Hf Hb.size (.slice (some ⟨g12, 0, none⟩) (c.n + 1) (c.n + 1)) w := ((ow.ext hX134).keep gr1.1 (fun g e => by rw [show g = g12 from (Option.some.inj e).symm]; exact hg12s)).ext hXf
        refine seqQ rfl rfl (yIdxA1 rfl Try.underlying112 Try.sizeOf27 rfl rfl rfl hp4) ?_
        -- e slot None: store T27 t136 t134
        refine seqE0 rfl rfl (stepStore (j := r * 4 + p) rfl Try.sizeOf27 (by show Value.pointer (some (((⟨g6, 0, none⟩ : Addr).add (r * 4)).add p)) = _; rw [add_of_add]) rfl rfl rfl k6 (by rw [List.length_take]; omega) ?_)
        intro Hg kg hKg
        have cm2 := (cmk.ext hX134).sentA (by omega) hsv gr1 o6 ci.s16 ((hXf.keep _).trans hKg) kg
        have ow2 := owf.keep hKg (fun g e => by rw [show g = g12 from (Option.some.inj e).symm]; simp; omega)
        have hEg : Ext H Hg := (((hE.trans hxc).trans hX134).mine gr1.1 (fun b hb => by have := (hM0 b hb).1; omega)).trans hXf |>.mine hKg (by simp; omega)
        clear k6 h9f owf ow
        have hbg : H7.size ≤ Hg.size := by have := hxc.size; have := hX134.size; have := gr1.1.size; have := hXf.size; have := hKg.size; omega
        obtain ⟨C, hsend, hadd⟩ := ci.send (by omega) hr4 hp4 (Ne.symm hrp)
        obtain ⟨L, hL1, hL2, hL3⟩ := cm2.at_ hr4
        replace hL3 : L.l.map EH.ent = c.L r := hL3
        have hlg := rd_at cm2.logs hL1
        refine seqNil ?_
        refine hF25 _ _ ?_; clear hF25
        refine wpRegion ?_
        refine seqQ rfl rfl (yMove (v := .slice _ _ _) rfl rfl) ?_
        refine seqQ rfl rfl (yMove (v := .int _ _) rfl rfl) ?_
        refine seqQ rfl rfl (yIdx1 rfl Try.underlying36 Try.sizeOf35 rfl rfl rfl hr4) ?_
        refine seqQ rfl rfl (yLoad rfl Try.underlying35 rfl rfl (show cellH Hg _ = some (.slice L.A L.l.length L.c) from hlg)) ?_
        refine seqQ rfl rfl (yMove (v := .int _ _) rfl rfl) ?_
        refine seqQ rfl rfl (yMove (v := .int _ _) rfl rfl) ?_
        refine seqQ rfl rfl (yMove (v := .int _ _) rfl rfl) ?_
        refine seqQ rfl rfl (yBuild (pl := [(0, 1), (1, 1), (2, 1), (3, 1), (4, 1)]) (vs := [(0, .int _ _), (1, .bool _), (2, .int _ _)]) rfl Try.underlying26 Try.zeroValue26 rfl (by unfold Places; kernel_rfl) rfl rfl) ?_
        -- e slot 146: call F13<farandole/log.Send> t141 t142 [i:i64:4] t145
        refine seqE rfl rfl (stepCall rfl Try.call13 rfl ?_)
        refine (send_c L.l L.A L.c r 4 ⟨r, true, p, 0, []⟩ none 0 Hg ((cm2.rdLogs ci.lab).2 L hL2) (ci.sm hr4 hL3) (Rd.nil _ _) (Nat.zero_le _)).mono ?_
        rintro v HC ⟨B1, cb1, l1, rfl, lo, hm1, x1⟩
        rw [hL3, hsend] at hm1 ⊢
        dsimp only at hm1
        have hN := lo.lgM (N := ⟨B1, cb1, l1⟩) cm2.tlt hbg
        have hpr := cm2.pr.put (r := r) (N := ⟨B1, cb1, l1⟩) cm2.lg lo (Nat.le_refl _)
        have hEC := hEg.trans x1
        have hbC := Nat.le_trans hbg x1.size
        have cmC := cm2.ext x1
        have owC := ow2.ext x1
        have hvo2 := (List.getElem?_set_ne (show r * 4 + p ≠ 16 by omega) (l := ws) (a := Value.slice V1 (tI (c.sent.getD (r * 4 + p) [] ++ [c.n])).length c1)).trans hvo
        have hvb2 := (List.getElem?_set_ne (show r * 4 + p ≠ 17 by omega) (l := ws) (a := Value.slice V1 (tI (c.sent.getD (r * 4 + p) [] ++ [c.n])).length c1)).trans hvb
        clear lo cm2 ow2 hX134 hXf hKg gr1 kg o6 hEg cmk osv
        refine seqQ rfl rfl (yMove (v := .tuple _) rfl rfl) ?_
        refine seqQ rfl rfl (yExtract (v := .slice _ _ _) rfl rfl rfl) ?_
        refine seqQ rfl rfl (yExtract (v := .int _ _) rfl rfl rfl) ?_
        refine seqQ rfl rfl (yAssign (v := .slice _ _ _) rfl rfl) ?_
        refine seqQ rfl rfl (yAssign (v := .int _ _) rfl rfl) ?_
        refine seqNil ?_
        refine hF23 _ _ ?_; clear hF23
        refine wpSeq fun F26 hF26 => ?_
        refine wpSeq fun F27 hF27 => ?_
        refine wpRegion ?_
        refine seqQ rfl rfl (yMove (v := .int _ _) rfl rfl) ?_
        refine seqQ rfl rfl (yNeq rfl rfl rfl) ?_
        refine seqNil ?_
        refine hF27 _ _ ?_; clear hF27
        -- if t150
        refine wpF rfl ?_
        refine wpSkip ?_
        refine hF26 _ _ ?_; clear hF26
        refine wpSeq fun F28 hF28 => ?_
        refine wpSeq fun F29 hF29 => ?_
        refine wpRegion ?_
        refine seqQ rfl rfl (yMove (v := .slice _ _ _) rfl rfl) ?_
        refine seqQ rfl rfl (yLen rfl Try.underlying55 rfl) ?_
        refine seqQ rfl rfl (yMove (v := .int _ _) rfl rfl) ?_
        refine seqNil ?_
        refine hF29 _ _ ?_; clear hF29
        -- loop
        refine wpBlock ?_
        refine wpLoopS [18, 19, 153, 154, 155, 156, 157, 158, 159, 160, 161, 162, 163, 164, 165, 166, 167, 168, 169, 170, 171, 172, 173, 174, 175, 176, 177, 178, 179, 180, 181, 182, 183] (fun z : Nat × List Bool => [(153, .int .i64 z.1)]) (fun z H' => z.1 ≤ c.n ∧ Keep [g12] HC H' ∧ Own eBool 4 H' Hb.size (.slice (some ⟨g12, 0, none⟩) (c.n + 1) (c.n + 1)) z.2 ∧ z.2.length = c.n + 1 ∧ ClP c (fun j => c.rl j = r ∨ (none : Option Nat) = some j) z.1 0 z.2) (fun z => c.n - z.1) (0, w) ⟨rfl, trivial⟩ ⟨Nat.zero_le _, Keep.refl _ _, owC, hwl, ClP.init (fun j => by rw [hw j]; simp)⟩ ?_
        rintro ⟨k, w⟩ Jk Hk ⟨hk, hKk, ow, hwl, hcl⟩
        dsimp only at hk ow hwl hcl
        refine wpSeq fun F30 hF30 => ?_
        refine wpRegion ?_
        refine seqQ rfl rfl (yLss rfl rfl rfl) ?_
        refine seqNil ?_
        refine hF30 _ _ ?_; clear hF30
        refine wpSeq fun F31 hF31 => ?_
        -- if t154
        refine wpIf rfl (fun hlk => ?_) (fun hlk => ?_)
        · skip
          have hkn : k < c.n := by dsimp only at hlk; omega
          refine wpSkip ?_
          refine hF31 _ _ ?_; clear hF31
          refine wpSeq fun F32 hF32 => ?_
          refine wpBlock ?_
          refine wpSeq fun F33 hF33 => ?_
          refine wpRegion ?_
          refine seqQ rfl rfl (yMove (v := .int _ _) rfl rfl) ?_
          refine seqQ rfl rfl (yAssign (v := .int _ _) rfl rfl) ?_
          refine seqNil ?_
          refine hF33 _ _ ?_; clear hF33
          refine wpSeq fun F34 hF34 => ?_
          refine wpRegion ?_
          refine seqQ rfl rfl (yMove (v := .int _ _) rfl rfl) ?_
          refine seqQ rfl rfl (yMove (v := .int _ _) rfl rfl) ?_
          refine seqNil ?_
          refine hF34 _ _ ?_; clear hF34
          -- loop
          refine wpBlock ?_
          refine wpLoopS [19, 157, 158, 159, 160, 161, 162, 163, 164, 165, 166, 167, 168, 169, 170, 171, 172, 173, 174, 175, 176, 177, 178, 179, 180, 181, 182] (fun z : Nat × List Bool => [(157, .int .i64 z.1)]) (fun z H' => z.1 ≤ k ∧ Keep [g12] HC H' ∧ Own eBool 4 H' Hb.size (.slice (some ⟨g12, 0, none⟩) (c.n + 1) (c.n + 1)) z.2 ∧ z.2.length = c.n + 1 ∧ ClP c (fun j => c.rl j = r ∨ (none : Option Nat) = some j) k z.1 z.2) (fun z => k - z.1) (0, w) ⟨rfl, trivial⟩ ⟨Nat.zero_le _, hKk, ow, hwl, hcl⟩ ?_
          clear hKk ow hwl hcl
          rintro ⟨j, w⟩ Jj Hj ⟨hj, hKj, ow, hwl, hcl⟩
          dsimp only at hj ow hwl hcl
          refine wpSeq fun F35 hF35 => ?_
          refine wpRegion ?_
          refine seqQ rfl rfl (yLss rfl rfl rfl) ?_
          refine seqNil ?_
          refine hF35 _ _ ?_; clear hF35
          refine wpSeq fun F36 hF36 => ?_
          -- if t158
          refine wpIf rfl (fun hlj => ?_) (fun hlj => ?_)
          · skip
            have hjk : j < k := by dsimp only at hlj; omega
            have cmj := (cmC).keepX hKj
            have hbl := cmj.brd.1
            have hkb : k < c.before.length := by rw [ci.bl]; exact hkn
            have hkh : k < hs.length := by rw [hbl]; exact hkb
            obtain ⟨hrl, hrd⟩ := cmj.brd.2 k hs[k] c.before[k] (List.getElem?_eq_getElem hkh) (List.getElem?_eq_getElem hkb)
            have hbk := ci.brow k hkn
            rw [getD_lt hkb] at hbk
            obtain ⟨qb, eqb, hqb⟩ := (Own.rd (cmj.bef _ hvb2)).2.at1 hkh
            obtain ⟨qr, eqr, hqr⟩ := hrd.rd.at1 (show j < c.before[k].length by omega)
            have hval : c.before[k][j] = (c.before.getD k []).getD j false := by rw [getD_lt hkb, getD_lt (show j < c.before[k].length by omega)]
            rw [hval] at hqr
            generalize hs[k] = hd at *
            rw [hbk] at hrl
            obtain ⟨h1, h2, h3⟩ := hd
            dsimp only at hrl eqr
            subst hrl
            have wj := rd_at ow (List.getElem?_eq_getElem (show j < w.length by omega))
            have wk := rd_at ow (List.getElem?_eq_getElem (show k < w.length by omega))
            rw [getD_row] at wj wk
            refine wpSkip ?_
            refine hF36 _ _ ?_; clear hF36
            refine wpSeq fun F37 hF37 => ?_
            refine wpBlock ?_
            refine wpSeq fun F38 hF38 => ?_
            refine wpRegion ?_
            refine seqQ rfl rfl (yMove (v := .int _ _) rfl rfl) ?_
            refine seqQ rfl rfl (yAssign (v := .int _ _) rfl rfl) ?_
            refine seqNil ?_
            refine hF38 _ _ ?_; clear hF38
            refine wpRegion ?_
            refine seqQ rfl rfl (yMove (v := .slice _ _ _) rfl rfl) ?_
            refine seqQ rfl rfl (yMove (v := .int _ _) rfl rfl) ?_
            refine seqQ rfl rfl (yMove (v := .slice _ _ _) rfl rfl) ?_
            refine seqQ rfl rfl (yMove (v := .int _ _) rfl rfl) ?_
            refine seqQ rfl rfl (yIdx1 rfl Try.underlying69 Try.sizeOf4 rfl rfl rfl (show j < c.n + 1 by omega)) ?_
            refine seqQ rfl rfl (yLoad rfl Try.underlying4 rfl rfl (show cellH Hj _ = some (.bool (w.getD j false)) from wj)) ?_
            -- guard t166
            cases hwj : w.getD j false
            · skip
              refine seqQ rfl rfl (yMove (v := .bool false) rfl rfl) ?_
              refine seqQ rfl rfl (yMove (v := .slice _ _ _) rfl rfl) ?_
              refine seqQ rfl rfl (yMove (v := .int _ _) rfl rfl) ?_
              refine seqQ rfl rfl (yIdx1 rfl Try.underlying69 Try.sizeOf4 rfl rfl rfl (show k < c.n + 1 by omega)) ?_
              refine seqQ rfl rfl (yLoad rfl Try.underlying4 rfl rfl (show cellH Hj _ = some (.bool (w.getD k false)) from wk)) ?_
              -- guard t171
              cases hwk : w.getD k false
              · skip
                refine seqQ rfl rfl (yMove (v := .bool false) rfl rfl) ?_
                refine seqU rfl rfl ?_
                refine seqU rfl rfl ?_
                refine seqU rfl rfl ?_
                refine seqU rfl rfl ?_
                refine seqU rfl rfl ?_
                refine seqU rfl rfl ?_
                refine seqU rfl rfl ?_
                refine seqQ rfl rfl (yPickF (v := .bool _) rfl rfl rfl) ?_
                refine seqQ rfl rfl (yPickF (v := .bool _) rfl rfl rfl) ?_
                refine seqQ rfl rfl (yIdx1 rfl Try.underlying69 Try.sizeOf4 rfl rfl rfl (by omega)) ?_
                -- e slot None: store T4 t181 t180
                -- e slot None: store T4 t181 t180
                refine seqE0 rfl rfl (stepStoreOwn ow rfl Try.sizeOf4 rfl rfl rfl rfl (by omega) ?_)
                intro Hs os hKs
                refine seqNil ?_
                refine hF37 _ _ ?_; clear hF37
                refine wpRegion ?_
                refine seqQ rfl rfl (yAdd rfl rfl rfl (by unfold In64; omega)) ?_
                refine seqQ rfl rfl (yMove (v := .int _ _) rfl rfl) ?_
                refine seqNil ?_
                -- end loop
                exact loopEnd (j + 1, _) (by repeat (first | (with_reducible exact Agree.refl _ _) | refine Agree.upd ?_ rfl | refine Agree.over ?_ rfl)) (by dsimp only; omega) ⟨rfl, trivial⟩ ⟨by dsimp only; omega, hKj.trans hKs, os, by dsimp only; rw [List.length_set]; exact hwl, hcl.step ci hkn hjk hwl (by rw [hwj, hwk, Bool.false_or, Bool.false_and])⟩
              · skip
                refine seqQ rfl rfl (yMove (v := .bool true) rfl rfl) ?_
                refine seqQ rfl rfl (yMove (v := .slice _ _ _) rfl rfl) ?_
                refine seqQ rfl rfl (yMove (v := .int _ _) rfl rfl) ?_
                refine seqQ rfl rfl (yIdxP1 rfl Try.underlying66 Try.sizeOf69 rfl rfl eqb rfl hkh) ?_
                refine seqQ rfl rfl (yLoad rfl Try.underlying69 rfl rfl (show cellH Hj _ = some (.slice h1 (k + 1) h3) from hqb)) ?_
                refine seqQ rfl rfl (yMove (v := .int _ _) rfl rfl) ?_
                refine seqQ rfl rfl (yIdxP1 rfl Try.underlying69 Try.sizeOf4 rfl rfl eqr rfl (show j < k + 1 by omega)) ?_
                refine seqQ rfl rfl (yLoad rfl Try.underlying4 rfl rfl (show cellH Hj _ = some (.bool ((c.before.getD k []).getD j false)) from hqr)) ?_
                refine seqQ rfl rfl (yPickT (v := .bool _) rfl rfl rfl) ?_
                refine seqQ rfl rfl (yPickF (v := .bool _) rfl rfl rfl) ?_
                refine seqQ rfl rfl (yIdx1 rfl Try.underlying69 Try.sizeOf4 rfl rfl rfl (show j < c.n + 1 by omega)) ?_
                -- e slot None: store T4 t181 t180
                -- e slot None: store T4 t181 t180
                refine seqE0 rfl rfl (stepStoreOwn ow rfl Try.sizeOf4 rfl rfl rfl rfl (by omega) ?_)
                intro Hs os hKs
                refine seqNil ?_
                refine hF37 _ _ ?_; clear hF37
                refine wpRegion ?_
                refine seqQ rfl rfl (yAdd rfl rfl rfl (by unfold In64; omega)) ?_
                refine seqQ rfl rfl (yMove (v := .int _ _) rfl rfl) ?_
                refine seqNil ?_
                -- end loop
                exact loopEnd (j + 1, _) (by repeat (first | (with_reducible exact Agree.refl _ _) | refine Agree.upd ?_ rfl | refine Agree.over ?_ rfl)) (by dsimp only; omega) ⟨rfl, trivial⟩ ⟨by dsimp only; omega, hKj.trans hKs, os, by dsimp only; rw [List.length_set]; exact hwl, hcl.step ci hkn hjk hwl (by rw [hwj, hwk, Bool.false_or, Bool.true_and])⟩
            · skip
              refine seqQ rfl rfl (yMove (v := .bool true) rfl rfl) ?_
              refine seqU rfl rfl ?_
              refine seqU rfl rfl ?_
              refine seqU rfl rfl ?_
              refine seqU rfl rfl ?_
              refine seqU rfl rfl ?_
              refine seqU rfl rfl ?_
              refine seqU rfl rfl ?_
              refine seqU rfl rfl ?_
              refine seqU rfl rfl ?_
              refine seqU rfl rfl ?_
              refine seqU rfl rfl ?_
              refine seqU rfl rfl ?_
              refine seqU rfl rfl ?_
              refine seqQ rfl rfl (yPickT (v := .bool _) rfl rfl rfl) ?_
              refine seqQ rfl rfl (yIdx1 rfl Try.underlying69 Try.sizeOf4 rfl rfl rfl (show j < c.n + 1 by omega)) ?_
              -- e slot None: store T4 t181 t180
              -- e slot None: store T4 t181 t180
              refine seqE0 rfl rfl (stepStoreOwn ow rfl Try.sizeOf4 rfl rfl rfl rfl (by omega) ?_)
              intro Hs os hKs
              refine seqNil ?_
              refine hF37 _ _ ?_; clear hF37
              refine wpRegion ?_
              refine seqQ rfl rfl (yAdd rfl rfl rfl (by unfold In64; omega)) ?_
              refine seqQ rfl rfl (yMove (v := .int _ _) rfl rfl) ?_
              refine seqNil ?_
              -- end loop
              exact loopEnd (j + 1, _) (by repeat (first | (with_reducible exact Agree.refl _ _) | refine Agree.upd ?_ rfl | refine Agree.over ?_ rfl)) (by dsimp only; omega) ⟨rfl, trivial⟩ ⟨by dsimp only; omega, hKj.trans hKs, os, by dsimp only; rw [List.length_set]; exact hwl, hcl.step ci hkn hjk hwl (by rw [hwj, Bool.true_or])⟩
          · skip
            obtain rfl : j = k := by dsimp only at hlj; omega
            refine wpExit ?_
            refine hF32 _ _ ?_; clear hF32
            refine wpRegion ?_
            refine seqQ rfl rfl (yAdd rfl rfl rfl (by unfold In64; omega)) ?_
            refine seqQ rfl rfl (yMove (v := .int _ _) rfl rfl) ?_
            refine seqNil ?_
            -- end loop
            exact loopEnd (j + 1, w) (by repeat (first | (with_reducible exact Agree.refl _ _) | refine Agree.upd ?_ rfl | refine Agree.over ?_ rfl)) (by dsimp only; omega) ⟨rfl, trivial⟩ ⟨by dsimp only; omega, hKj, ow, hwl, hcl.next ci hkn⟩
        obtain rfl : k = c.n := by dsimp only at hlk; omega
        have hrow := hcl.row hwl
        have cm3 := (cmC).keepX hKk
        obtain ⟨L3, hL1, hL2, hL3⟩ := cm3.at_ hr4
        have hLl : L3.l.length = c.len r := by have := congrArg List.length hL3; rw [List.length_map] at this; exact this
        have hlr := ci.len_le hr4
        have hbk : H7.size ≤ Hk.size := Nat.le_trans hbC hKk.size
        have hlg3 := rd_at cm3.logs hL1
        refine wpExit ?_
        refine hF28 _ _ ?_; clear hF28
        refine wpSeq fun F39 hF39 => ?_
        refine wpRegion ?_
        refine seqQ rfl rfl (yMove (v := .slice _ _ _) rfl rfl) ?_
        refine seqQ rfl rfl (yMove (v := .int _ _) rfl rfl) ?_
        refine seqQ rfl rfl (yMove (v := .slice _ _ _) rfl rfl) ?_
        refine seqQ rfl rfl (yMove (v := .int _ _) rfl rfl) ?_
        refine seqQ rfl rfl (yIdx1 rfl Try.underlying36 Try.sizeOf35 rfl rfl rfl hr4) ?_
        refine seqQ rfl rfl (yLoad rfl Try.underlying35 rfl rfl (show cellH Hk _ = some (.slice L3.A (c.len r) L3.c) from by rw [← hLl]; exact hlg3)) ?_
        refine seqQ rfl rfl (yLen rfl Try.underlying35 rfl) ?_
        refine seqQ rfl rfl (yBuild (pl := [(0, 1), (1, 1)]) (vs := [(0, .int _ _), (1, .int _ _)]) rfl Try.underlying64 Try.zeroValue64 rfl (by unfold Places; kernel_rfl) rfl rfl) ?_
        refine seqN rfl rfl (nBuildSliceN (vs := [.agg _]) rfl Try.underlying55 Try.sizeOf64 Try.zeroValue64 rfl rfl rfl rfl rfl) (fun g192 H192 hx192 hB192 hg192 hl192 => ?_)
        -- e slot 193: builtin append t184 t192 : [55, 55]
        refine seqE rfl rfl (stepApp (c := ePl) ((cm3.ord _ hvo2).ext hx192) rfl Try.underlying55 elem_pl rfl (by omega) rfl rfl rfl (Blk.rd (c := ePl) (l := [(r, c.len r)]) hB192) (by simp only [List.length_singleton]; omega) (by have := hx192.size; omega) ?_)
        intro v4 Hp op gp
        have cm4 := (cm3.ext hx192).ordA hvo2 gp op
        have hbp : H7.size ≤ Hp.size := Nat.le_trans (Nat.le_trans hbk hx192.size) gp.1.size
        have hw4 := cm3.wlt hvo2
        have owp := (ow.ext hx192).keep gp.1 (fun g e hm => by
          rw [show g = g12 from (Option.some.inj e).symm, Option.mem_toList] at hm
          exact (cm3.xs g12 (.head _)).2.2 16 _ hvo2 hm)
        have hNp := ((hN.tr (Tr.of_keep (hKk.mono fun x hx => by rw [List.mem_singleton.1 hx]; exact .head _))).tr (Tr.of_ext hx192 _)).tr (rows_tr ([g12] ++ [gL, g6, g7]) hvo2 gp)
        have hEp : Ext H Hp := ((hEC.mine hKk (by simp; omega)).trans hx192).mine gp.1 (fun x hx => by rw [Option.mem_toList] at hx; have := (hw4 x hx).1; omega)
        have hvb4 := (List.getElem?_set_ne (show 16 ≠ 17 by decide) (l := (ws.set (r * 4 + p) (Value.slice V1 (tI (c.sent.getD (r * 4 + p) [] ++ [c.n])).length c1))) (a := v4)).trans hvb2
        have hvo4 : (((ws.set (r * 4 + p) (Value.slice V1 (tI (c.sent.getD (r * 4 + p) [] ++ [c.n])).length c1))).set 16 v4)[16]? = some v4 := List.getElem?_set_self (List.getElem?_eq_some_iff.1 hvo2).1
        clear hN hKk hEC
        obtain ⟨OA2, oc2, rfl, -⟩ := op.form
        refine seqQ rfl rfl (yAssign (v := .slice _ _ _) rfl rfl) ?_
        refine seqNil ?_
        refine hF39 _ _ ?_; clear hF39
        refine wpSeq fun F40 hF40 => ?_
        refine wpRegion ?_
        refine seqQ rfl rfl (yMove (v := .slice _ _ _) rfl rfl) ?_
        refine seqQ rfl rfl (yMove (v := .slice _ _ _) rfl rfl) ?_
        refine seqN rfl rfl (nBuildSlice (vs := [.slice _ _ _]) rfl Try.underlying66 Try.sizeOf69 Try.zeroValue69 rfl rfl rfl rfl) (fun g196 H196 hx196 hB196 hg196 hl196 => ?_)
        -- e slot 197: builtin append t194 t196 : [66, 66]
        refine seqE rfl rfl (stepApp (c := eHdr) ((cm4.bef _ hvb4).ext hx196) rfl Try.underlying66 elem_rows rfl (by omega) rfl rfl rfl (Blk.rd (c := eHdr) (l := [(some ⟨g12, 0, none⟩, c.n + 1, c.n + 1)]) hB196) (by have := cm4.brd.1; have := ci.bl; simp only [List.length_singleton]; dsimp only at *; omega) (by have := hx196.size; omega) ?_)
        intro v5 Hq oq gq
        have hbq : H7.size ≤ Hq.size := Nat.le_trans (Nat.le_trans hbp hx196.size) gq.1.size
        have hw5 := cm4.wlt hvb4
        have cm5 := ((cm4.ext hx196).dropX).befA hvb4 gq oq (row := w) hwl.symm (RdM.of ((Own.rd owp).2.ext hx196) fun p e hm => cm4.notT (by rw [show p = ⟨g12, 0, none⟩ from (Option.some.inj e).symm] at hm; exact hm))
        have hNq := ((hNp.tr (Tr.sub (M' := [] ++ [gL, g6, g7] ++ rowsB (((ws.set (r * 4 + p) (Value.slice V1 (tI (c.sent.getD (r * 4 + p) [] ++ [c.n])).length c1))).set 16 _)) _ (fun x hx => List.mem_cons_of_mem _ hx))).tr (Tr.of_ext hx196 _)).tr (rows_tr ([] ++ [gL, g6, g7]) hvb4 gq)
        have hEq : Ext H Hq := (hEp.trans hx196).mine gq.1 (fun x hx => by rw [Option.mem_toList] at hx; have := (hw5 x hx).1; omega)
        have hvo5 := (List.getElem?_set_ne (show 17 ≠ 16 by decide) (l := ((ws.set (r * 4 + p) (Value.slice V1 (tI (c.sent.getD (r * 4 + p) [] ++ [c.n])).length c1))).set 16 _) (a := v5)).trans hvo4
        have hvb5 : ((((ws.set (r * 4 + p) (Value.slice V1 (tI (c.sent.getD (r * 4 + p) [] ++ [c.n])).length c1))).set 16 _).set 17 v5)[17]? = some v5 := List.getElem?_set_self (List.getElem?_eq_some_iff.1 hvb4).1
        clear hNp hEp
        obtain ⟨BA2, bc2, rfl, -⟩ := oq.form
        refine seqQ rfl rfl (yAssign (v := .slice _ _ _) rfl rfl) ?_
        refine seqNil ?_
        refine hF40 _ _ ?_; clear hF40
        refine wpRegion ?_
        refine seqQ rfl rfl (yMove (v := .slice _ _ _) rfl rfl) ?_
        refine seqQ rfl rfl (yMove (v := .int _ _) rfl rfl) ?_
        refine seqQ rfl rfl (yMove (v := .slice _ _ _) rfl rfl) ?_
        refine seqQ rfl rfl (yIdx1 rfl Try.underlying36 Try.sizeOf35 rfl rfl rfl hr4) ?_
        -- e slot None: store T35 t201 t200
        refine seqE0 rfl rfl (stepStoreOwn (z := ⟨B1, cb1, l1⟩) cm5.logs rfl Try.sizeOf35 rfl rfl rfl rfl (by rw [cm5.l4]; exact hr4) ?_)
        intro Hs os hKs
        have cm6 := cm5.logA hKs os hNq hpr
        have hEs : Ext H Hs := hEq.mine hKs (by simp; omega)
        refine seqNil ?_
        refine hF9 _ _ ?_; clear hF9
        refine wpRegion ?_
        refine seqQ rfl rfl (yAdd rfl rfl rfl (by unfold In64; omega)) ?_
        refine seqQ rfl rfl (yMove (v := .int _ _) rfl rfl) ?_
        refine seqNil ?_
        -- end loop
        exact loopEnd ⟨i + 1, _, _, _, _, _, _⟩ (by repeat (first | (with_reducible exact Agree.refl _ _) | refine Agree.upd ?_ rfl | refine Agree.over ?_ rfl)) (by dsimp only; omega) ⟨rfl, rfl, rfl, rfl, trivial⟩ ⟨hil, by show (c.order ++ [(r, c.len r)]).length ≤ i + 1; rw [List.length_append, List.length_singleton]; omega, hadd w hrow, cm6.cast (by
          show Conv.mk (c.logs.set r (LH.ents ⟨B1, cb1, l1⟩)) _ _ _ _ = Conv.mk _ _ _ _ _
          rw [show LH.ents ⟨B1, cb1, l1⟩ = _ from hm1]
          rw [esv, Nat.mul_comm r 4]), hvo5, hvb5, hEs, Nat.le_trans hbq hKs.size⟩
      · skip
        have h18 := cm.w18
        have h16 := ci.g16
        obtain ⟨sv, hsv⟩ : ∃ v, ws[p * 4 + r]? = some v := ⟨_, List.getElem?_eq_getElem (by omega)⟩
        have hsv2 : (ws.take 16)[p * 4 + r]? = some sv := by rw [List.getElem?_take_of_lt (by omega)]; exact hsv
        have osv := cm.rows (p * 4 + r) sv (by omega) hsv
        have esv : c.sent.getD (p * 4 + r) [] = c.sentOf p r := by rw [Nat.mul_comm]; rfl
        rw [esv] at osv
        obtain ⟨SA, sc, rfl, -, rsv, -⟩ := osv.form
        have etl : (tI (c.sentOf p r)).length = (c.sentOf p r).length := tI_len _
        have hgv : (c.got.map fun n : Nat => Value.int .i64 n)[r * 4 + p]? = some (.int .i64 (c.gotOf r p)) := by
          rw [List.getElem?_map, List.getElem?_eq_getElem (by omega)]
          show some (Value.int .i64 _) = _
          rw [← getD_lt (z := 0) (by omega), Nat.mul_comm r 4]
          rfl
        have lds : ∀ {H' : Heap}, Blk H' g6 (ws.take 16) 113 → cellH H' (((⟨g6, 0, none⟩ : Addr).add (p * 4)).add r) = some (.slice SA (tI (c.sentOf p r)).length sc) := fun hB => by rw [add_of_add]; exact hB.cell hsv2
        have ldg : ∀ {H' : Heap}, Blk H' g7 (c.got.map fun n : Nat => .int .i64 n) 115 → cellH H' (((⟨g7, 0, none⟩ : Addr).add (r * 4)).add p) = some (.int .i64 (c.gotOf r p)) := fun hB => by rw [add_of_add]; exact hB.cell hgv
        refine lexQ rfl rfl rfl rfl (fun H hM => (yMove (v := .bool true) rfl rfl)) ?_
        refine lexQ rfl rfl rfl rfl (fun H hM => (yMove (v := .int _ _) rfl rfl)) ?_
        refine lexQ rfl rfl rfl rfl (fun H hM => (yMove (v := .int _ _) rfl rfl)) ?_
        refine lexQ rfl rfl rfl rfl (fun H hM => (yIdxA rfl Try.underlying115 Try.sizeOf114 rfl rfl rfl hr4)) ?_
        refine lexQ rfl rfl rfl rfl (fun H hM => (yIdxA1 rfl Try.underlying114 Try.sizeOf3 rfl rfl rfl hp4)) ?_
        refine lexQ rfl rfl rfl rfl (fun H hM => (yLoad rfl Try.underlying3 rfl rfl (hM.ext.cell (ldg cm.got)))) ?_
        refine lexQ rfl rfl rfl rfl (fun H hM => (yMove (v := .int _ _) rfl rfl)) ?_
        refine lexQ rfl rfl rfl rfl (fun H hM => (yMove (v := .int _ _) rfl rfl)) ?_
        refine lexQ rfl rfl rfl rfl (fun H hM => (yIdxA rfl Try.underlying113 Try.sizeOf112 rfl rfl rfl hp4)) ?_
        refine lexQ rfl rfl rfl rfl (fun H hM => (yIdxA1 rfl Try.underlying112 Try.sizeOf27 rfl rfl rfl hr4)) ?_
        refine lexQ rfl rfl rfl rfl (fun H hM => (yLoad rfl Try.underlying27 rfl rfl (hM.ext.cell (lds cm.sent)))) ?_
        refine lexQ rfl rfl rfl rfl (fun H hM => (yLen rfl Try.underlying27 rfl)) ?_
        -- tail
        refine lexNil0 rfl (fun hM => ?_)
        refine seqQ rfl rfl (yGeq rfl rfl rfl) ?_
        refine seqQ rfl rfl (yPickT (v := .bool _) rfl rfl rfl) ?_
        refine seqQ rfl rfl (yPickF (v := .bool _) rfl rfl rfl) ?_
        refine seqNil ?_
        refine hF13 _ _ ?_; clear hF13
        -- if t55
        refine wpIf rfl (fun hge => ?_) (fun hge => ?_)
        · skip
          refine wpExit ?_
          refine hF9 _ _ ?_; clear hF9
          refine wpRegion ?_
          refine seqQ rfl rfl (yAdd rfl rfl rfl (by unfold In64; omega)) ?_
          refine seqQ rfl rfl (yMove (v := .int _ _) rfl rfl) ?_
          refine seqNil ?_
          -- end loop
          exact loopEnd ⟨i + 1, _, _, ws, lhs, hs, c⟩ (by repeat (first | (with_reducible exact Agree.refl _ _) | refine Agree.upd ?_ rfl | refine Agree.over ?_ rfl)) (by dsimp only; omega) ⟨rfl, rfl, rfl, rfl, trivial⟩ ⟨hil, by dsimp only; omega, ci, cm, hvo, hvb, hE, hbH⟩
        · skip
          have hgl : c.gotOf r p < (c.sentOf p r).length := by rw [etl] at hge; omega
          obtain ⟨m, hm⟩ : ∃ m, (c.sentOf p r)[c.gotOf r p]? = some m := ⟨_, List.getElem?_eq_getElem hgl⟩
          obtain ⟨hmn, hmr⟩ := (ci.sends p r hp4 hr4).2 m (List.mem_of_getElem? hm)
          refine wpSkip ?_
          refine hF12 _ _ ?_; clear hF12
          refine wpSeq fun F41 hF41 => ?_
          refine wpRegion ?_
          refine seqQ rfl rfl (yMove (v := .slice _ _ _) rfl rfl) ?_
          refine seqQ rfl rfl (yLen rfl Try.underlying55 rfl) ?_
          refine seqQ rfl rfl (yAdd rfl rfl rfl (by unfold In64; omega)) ?_
          -- e slot 59: makeSlice T69 t58 t58
          refine seqE rfl rfl (stepMake (c := eBool) (z := false) rfl Try.underlying69 elem_eBool rfl (by omega) rfl rfl (show (c.order.length : Int) + 1 = ((c.n + 1 : Nat) : Int) by unfold Conv.n; omega) (by omega) ?_)
          intro g12 H12 hx12 hg12 ow
          have z12 := hx12.size
          refine seqQ rfl rfl (yAssign (v := .slice _ _ _) rfl rfl) ?_
          refine seqNil ?_
          refine hF41 _ _ ?_; clear hF41
          refine wpSeq fun F42 hF42 => ?_
          refine wpSeq fun F43 hF43 => ?_
          refine wpRegion ?_
          refine seqQ rfl rfl (yMove (v := .slice _ _ _) rfl rfl) ?_
          refine seqQ rfl rfl (yLen rfl Try.underlying55 rfl) ?_
          refine seqQ rfl rfl (yMove (v := .int _ _) rfl rfl) ?_
          refine seqNil ?_
          refine hF43 _ _ ?_; clear hF43
          -- loop
          refine wpBlock ?_
          refine wpLoopS [13, 14, 62, 63, 64, 65, 66, 67, 68, 69, 70, 71, 72, 73, 74] (fun z : Nat × List Bool => [(62, .int .i64 z.1)]) (fun z H' => z.1 ≤ c.n ∧ Ext Hb H' ∧ g12 < H'.size ∧ Own eBool 4 H' Hb.size (.slice (some ⟨g12, 0, none⟩) (c.n + 1) (c.n + 1)) z.2 ∧ z.2.length = c.n + 1 ∧ ∀ j, z.2.getD j false = true ↔ j < z.1 ∧ c.rl j = r) (fun z => c.n - z.1) (0, List.replicate (c.n + 1) false) ⟨rfl, trivial⟩ ⟨Nat.zero_le _, hx12, (ow.lt g12 rfl).2, ow, by simp, row0_ok _ _⟩ ?_
          clear ow z12
          rintro ⟨k, w⟩ Jk Hk ⟨hk, hxk, gk, ow, hwl, hw⟩
          dsimp only at hk ow hwl hw
          refine wpSeq fun F44 hF44 => ?_
          refine wpRegion ?_
          refine seqQ rfl rfl (yLss rfl rfl rfl) ?_
          refine seqNil ?_
          refine hF44 _ _ ?_; clear hF44
          refine wpSeq fun F45 hF45 => ?_
          -- if t63
          refine wpIf rfl (fun hlk => ?_) (fun hlk => ?_)
          · skip
            have hkn : k < c.n := by dsimp only at hlk; omega
            obtain ⟨qo, eqo, hqo⟩ := (ro.ext hxk).at (show k < c.order.length from hkn)
            have erl : c.order[k].1 = c.rl k := congrArg Prod.fst (getD_lt (z := (0, 0)) (show k < c.order.length from hkn)).symm
            refine wpSkip ?_
            refine hF45 _ _ ?_; clear hF45
            refine wpSeq fun F46 hF46 => ?_
            refine wpBlock ?_
            refine wpSeq fun F47 hF47 => ?_
            refine wpRegion ?_
            refine seqQ rfl rfl (yMove (v := .int _ _) rfl rfl) ?_
            refine seqQ rfl rfl (yIdxP rfl Try.underlying55 Try.sizeOf64 rfl rfl eqo rfl hkn) ?_
            refine seqQ rfl rfl (yLoadC (cs := ePl.F c.order[k]) rfl Try.underlying64 rfl Try.sizeOf64 rfl hqo) ?_
            refine seqN rfl rfl (nAlloc rfl Try.zeroValue64 rfl) (fun g14 H14 hx14 hB14 hg14 hl14 => ?_)
            refine seqQ rfl rfl (yAssign (v := .int _ _) rfl rfl) ?_
            -- e slot None: store T64 t14 t66
            refine seqE0 rfl rfl (stepStoreB rfl (by kernel_rfl) rfl rfl rfl hB14 rfl ?_)
            intro Hm h14 hK14
            have hxm : Ext Hk Hm := hx14.mine hK14 (by simp; omega)
            clear hK14 hx14 hB14
            refine seqNil ?_
            refine hF47 _ _ ?_; clear hF47
            refine wpRegion ?_
            refine seqQ rfl rfl (yMove (v := .slice _ _ _) rfl rfl) ?_
            refine seqQ rfl rfl (yMove (v := .int _ _) rfl rfl) ?_
            refine seqQ rfl rfl (yFieldAddr rfl Try.underlying64 rfl Try.sizeOf3 rfl rfl) ?_
            refine seqQ rfl rfl (yLoad rfl Try.underlying3 rfl rfl (h14.cell (j := 0) rfl)) ?_
            refine seqQ rfl rfl (yMove (v := .int _ _) rfl rfl) ?_
            refine seqQ rfl rfl (yEql rfl rfl rfl) ?_
            refine seqQ rfl rfl (yIdx1 rfl Try.underlying69 Try.sizeOf4 rfl rfl rfl (show k < c.n + 1 by omega)) ?_
            -- e slot None: store T4 t73 t72
            refine seqE0 rfl rfl (stepStoreOwn (ow.ext hxm) rfl Try.sizeOf4 rfl rfl rfl rfl (by omega) ?_)
            intro Hs os hKs
            have hxs := (hxk.trans hxm).mine hKs (by simp; exact hg12)
            refine seqNil ?_
            refine hF46 _ _ ?_; clear hF46
            refine wpRegion ?_
            refine seqQ rfl rfl (yAdd rfl rfl rfl (by unfold In64; omega)) ?_
            refine seqQ rfl rfl (yMove (v := .int _ _) rfl rfl) ?_
            refine seqNil ?_
            -- end loop
            exact loopEnd (k + 1, _) (by repeat (first | (with_reducible exact Agree.refl _ _) | refine Agree.upd ?_ rfl | refine Agree.over ?_ rfl)) (by dsimp only; omega) ⟨rfl, trivial⟩ ⟨hkn, hxs, by have := hxm.size; have := hKs.size; omega, os, by dsimp only; rw [List.length_set]; exact hwl, row_step hwl (by omega) hw (by simp [erl]; omega)⟩
          obtain rfl : k = c.n := by dsimp only at hlk; omega
          have hxc := hxk
          clear hxk
          have cmk := cm.addX hbH hxc hg12 gk
          obtain ⟨qS, eqS, hqS⟩ := ((rsv.ext hxc)).at1 (show c.gotOf r p < (tI (c.sentOf p r)).length by rw [etl]; exact hgl)
          have evS : (tI (c.sentOf p r))[c.gotOf r p]'(by rw [etl]; exact hgl) = (m : Int) := by
            obtain ⟨hx, e⟩ := List.getElem?_eq_some_iff.1 hm
            unfold tI
            rw [List.getElem_map, e]
          rw [evS] at hqS
          refine wpExit ?_
          refine hF42 _ _ ?_; clear hF42
          refine wpSeq fun F48 hF48 => ?_
          refine wpRegion ?_
          refine seqQ rfl rfl (yAssign (v := .slice _ _ _) rfl rfl) ?_
          refine seqNil ?_
          refine hF48 _ _ ?_; clear hF48
          refine wpSeq fun F49 hF49 => ?_
          refine wpRegion ?_
          refine seqQ rfl rfl (yAssign (v := .int _ _) rfl rfl) ?_
          refine seqNil ?_
          refine hF49 _ _ ?_; clear hF49
          refine wpSeq fun F50 hF50 => ?_
          refine wpSeq fun F51 hF51 => ?_
          refine wpRegion ?_
          refine seqQ rfl rfl (yFieldAddr rfl Try.underlying117 rfl Try.sizeOf4 rfl rfl) ?_
          refine seqQ rfl rfl (yLoad rfl Try.underlying4 rfl rfl (show cellH Hk ((⟨g9, 0, none⟩ : Addr).add 2) = some (.bool true) from hxc.cell (by rw [← hget]; exact h9.cell (j := 2) rfl))) ?_
          refine seqNil ?_
          refine hF51 _ _ ?_; clear hF51
          -- if t76
          refine wpT rfl ?_
          refine wpSeq fun F52 hF52 => ?_
          refine wpRegionD Try_mixed [.q, .q, .q, .q, .q, .q, .q, .q, .q, .q, .q, .q, .q] 10 [0, 0, 1, 7, 15, 0, 0, 32, 224, 480, 1023, 2047, 4095] [] (by kernel_rfl) _ rfl [0, 1, 2, 3, 4, 5, 6, 7, 8, 9] rfl (by simp) ?_
          refine lexQ rfl rfl rfl rfl (fun H hM => (yMove (v := .int _ _) rfl rfl)) ?_
          refine lexQ rfl rfl rfl rfl (fun H hM => (yMove (v := .int _ _) rfl rfl)) ?_
          refine lexQ rfl rfl rfl rfl (fun H hM => (yIdxA rfl Try.underlying113 Try.sizeOf112 rfl rfl rfl hp4)) ?_
          refine lexQ rfl rfl rfl rfl (fun H hM => (yIdxA1 rfl Try.underlying112 Try.sizeOf27 rfl rfl rfl hr4)) ?_
          refine lexQ rfl rfl rfl rfl (fun H hM => (yLoad rfl Try.underlying27 rfl rfl (hM.ext.cell (lds cmk.sent)))) ?_
          refine lexQ rfl rfl rfl rfl (fun H hM => (yMove (v := .int _ _) rfl rfl)) ?_
          refine lexQ rfl rfl rfl rfl (fun H hM => (yMove (v := .int _ _) rfl rfl)) ?_
          refine lexQ rfl rfl rfl rfl (fun H hM => (yIdxA rfl Try.underlying115 Try.sizeOf114 rfl rfl rfl hr4)) ?_
          refine lexQ rfl rfl rfl rfl (fun H hM => (yIdxA1 rfl Try.underlying114 Try.sizeOf3 rfl rfl rfl hp4)) ?_
          refine lexQ rfl rfl rfl rfl (fun H hM => (yLoad rfl Try.underlying3 rfl rfl (hM.ext.cell (ldg cmk.got)))) ?_
          -- tail
          refine lexNil0 rfl (fun hM => ?_)
          refine seqQ rfl rfl (yIdxP1 rfl Try.underlying27 Try.sizeOf3 rfl rfl eqS rfl (show c.gotOf r p < (tI (c.sentOf p r)).length by rw [etl]; exact hgl)) ?_
          refine seqQ rfl rfl (yLoad rfl Try.underlying3 rfl rfl (show cellH Hk _ = some (.int .i64 (m : Int)) from hqS)) ?_
          refine seqQ rfl rfl (yAssign (v := .int _ _) rfl rfl) ?_
          refine seqNil ?_
          refine hF52 _ _ ?_; clear hF52
          refine wpSeq fun F53 hF53 => ?_
          refine wpRegionD Try_mixed [.q, .q, .q, .q, .q, .q, .q, .q, .e] 7 [0, 0, 1, 7, 15, 31, 1, 127, 255] [] (by kernel_rfl) _ rfl [0, 1, 2, 3, 4, 5, 6] rfl (by simp) ?_
          refine lexQ rfl rfl rfl rfl (fun H hM => (yMove (v := .int _ _) rfl rfl)) ?_
          refine lexQ rfl rfl rfl rfl (fun H hM => (yMove (v := .int _ _) rfl rfl)) ?_
          refine lexQ rfl rfl rfl rfl (fun H hM => (yIdxA rfl Try.underlying115 Try.sizeOf114 rfl rfl rfl hr4)) ?_
          refine lexQ rfl rfl rfl rfl (fun H hM => (yIdxA1 rfl Try.underlying114 Try.sizeOf3 rfl rfl rfl hp4)) ?_
          refine lexQ rfl rfl rfl rfl (fun H hM => (yLoad rfl Try.underlying3 rfl rfl (hM.ext.cell (ldg cmk.got)))) ?_
          refine lexQ rfl rfl rfl rfl (fun H hM => (yAdd rfl rfl rfl (by have := ci.sent_len hp4 hr4; unfold In64; omega))) ?_
          refine lexQ rfl rfl rfl rfl (fun H hM => (yIdxA rfl Try.underlying115 Try.sizeOf114 rfl rfl rfl hr4)) ?_
          -- tail
          refine lexNil0 rfl (fun hM => ?_)
          refine seqQ rfl rfl (yIdxA1 rfl Try.underlying114 Try.sizeOf3 rfl rfl rfl hp4) ?_
          -- e slot None: store T3 t96 t94
          refine seqE0 rfl rfl (stepStore (j := r * 4 + p) rfl Try.sizeOf3 (by show Value.pointer (some (((⟨g7, 0, none⟩ : Addr).add (r * 4)).add p)) = _; rw [add_of_add]) rfl rfl rfl cmk.got (by rw [List.length_map]; omega) ?_)
          intro Hg kg hKg
          have cm1 := cmk.gotA (got := c.got.set (r * 4 + p) (c.gotOf r p + 1)) hKg (by rw [List.map_set]; exact kg)
          have ow1 := ow.keep hKg (fun g e => by rw [show g = g12 from (Option.some.inj e).symm]; simp; omega)
          have hEg : Ext H Hg := (hE.trans hxc).mine hKg (by simp; omega)
          refine seqNil ?_
          refine hF53 _ _ ?_; clear hF53
          refine wpSeq fun F54 hF54 => ?_
          refine wpRegion ?_
          refine seqQ rfl rfl (yMove (v := .slice _ _ _) rfl rfl) ?_
          refine seqQ rfl rfl (yMove (v := .int _ _) rfl rfl) ?_
          refine seqQ rfl rfl (yIdx1 rfl Try.underlying69 Try.sizeOf4 rfl rfl rfl (show m < c.n + 1 by omega)) ?_
          -- e slot None: store T4 t99 [b:true]
          refine seqE0 rfl rfl (stepStoreOwn (z := true) ow1 rfl Try.sizeOf4 rfl rfl rfl rfl (by omega) ?_)
          intro Hr owR hKr
          have cm2 := cm1.keepX hKr
          have hEr : Ext H Hr := hEg.mine hKr (by simp; omega)
          have hbg : H7.size ≤ Hr.size := by have := hxc.size; have := hKg.size; have := hKr.size; omega
          obtain ⟨C, hrecv, hadd⟩ := ci.recv (by omega) hr4 hp4 (Ne.symm hrp) hm
          obtain ⟨L, hL1, hL2, hL3⟩ := cm2.at_ hr4
          obtain ⟨Q, hQ1, hQ2, hQ3⟩ := cm2.at_ hp4
          replace hL3 : L.l.map EH.ent = c.L r := hL3
          replace hQ3 : Q.l.map EH.ent = c.L p := hQ3
          have hlg := rd_at cm2.logs hL1
          have hlq := rd_at cm2.logs hQ1
          have hiq : c.ix m < Q.l.length := by
            have h1 := (ci.inv.role m hmn).2
            rw [hmr] at h1
            have h2 := congrArg List.length hQ3
            rw [List.length_map] at h2
            rw [h2]
            exact h1
          have rdQ := (cm2.rdLogs ci.lab).2 Q hQ2
          obtain ⟨qQ, eqQ, hqQ⟩ := rdQ.1.at hiq
          have hye := (rdQ.2 _ (List.getElem_mem hiq)).2
          have hyc : Q.l[c.ix m].clk = c.ck m := by
            unfold Conv.ck clkAt
            rw [hmr]
            show _ = ((c.L p).getD (c.ix m) ent0).clk
            rw [← hQ3, getD_ent _ hiq]
            rfl
          generalize Q.l[c.ix m] = y at *
          obtain ⟨qo, eqo, hqo⟩ := (Own.rd (cm2.ord _ hvo)).2.at (show m < c.order.length from hmn)
          have eix : c.order[m].2 = c.ix m := congrArg Prod.snd (getD_lt (z := (0, 0)) (show m < c.order.length from hmn)).symm
          have hqo2 : cellH Hr ((qo.add (m * 2)).add 1) = some (.int .i64 ((c.order[m].2 : Nat) : Int)) := hqo 1 _ rfl
          rw [eix] at hqo2
          refine seqNil ?_
          refine hF54 _ _ ?_; clear hF54
          refine wpRegionD Try_mixed [.q, .q, .q, .q, .q, .q, .q, .q, .q, .q, .q, .q, .q, .q, .q, .q, .q, .q, .q, .q, .e, .q, .q, .q, .q, .q] 25 [0, 0, 3, 7, 0, 0, 0, 96, 0, 0, 768, 1792, 0, 0, 12288, 28672, 61440, 130816, 261888, 524032, 1048575, 2097151, 4194303, 4194303, 8388607, 33554431] [] (by kernel_rfl) _ rfl [0, 1, 2, 3, 4, 5, 6, 7, 8, 9, 10, 11, 12, 13, 14, 15, 16, 17, 18, 19, 20, 21, 22, 23, 24] rfl (by simp) ?_
          refine lexQ rfl rfl rfl rfl (fun H hM => (yMove (v := .slice _ _ _) rfl rfl)) ?_
          refine lexQ rfl rfl rfl rfl (fun H hM => (yMove (v := .int _ _) rfl rfl)) ?_
          refine lexQ rfl rfl rfl rfl (fun H hM => (yIdx1 rfl Try.underlying36 Try.sizeOf35 rfl rfl rfl hr4)) ?_
          refine lexQ rfl rfl rfl rfl (fun H hM => (yLoad rfl Try.underlying35 rfl rfl (hM.ext.cell (show cellH Hr _ = some (.slice L.A L.l.length L.c) from hlg)))) ?_
          refine lexQ rfl rfl rfl rfl (fun H hM => (yMove (v := .int _ _) rfl rfl)) ?_
          refine lexQ rfl rfl rfl rfl (fun H hM => (yMove (v := .int _ _) rfl rfl)) ?_
          refine lexQ rfl rfl rfl rfl (fun H hM => (yMove (v := .int _ _) rfl rfl)) ?_
          refine lexQ rfl rfl rfl rfl (fun H hM => (yBuild (pl := [(0, 1), (1, 1), (2, 1), (3, 1), (4, 1)]) (vs := [(0, .int _ _), (2, .int _ _)]) rfl Try.underlying26 Try.zeroValue26 rfl (by unfold Places; kernel_rfl) rfl rfl)) ?_
          refine lexQ rfl rfl rfl rfl (fun H hM => (yMove (v := .slice _ _ _) rfl rfl)) ?_
          refine lexQ rfl rfl rfl rfl (fun H hM => (yMove (v := .int _ _) rfl rfl)) ?_
          refine lexQ rfl rfl rfl rfl (fun H hM => (yIdx1 rfl Try.underlying36 Try.sizeOf35 rfl rfl rfl hp4)) ?_
          refine lexQ rfl rfl rfl rfl (fun H hM => (yLoad rfl Try.underlying35 rfl rfl (hM.ext.cell (show cellH Hr _ = some (.slice Q.A Q.l.length Q.c) from hlq)))) ?_
          refine lexQ rfl rfl rfl rfl (fun H hM => (yMove (v := .slice _ _ _) rfl rfl)) ?_
          refine lexQ rfl rfl rfl rfl (fun H hM => (yMove (v := .int _ _) rfl rfl)) ?_
          refine lexQ rfl rfl rfl rfl (fun H hM => (yIdxP rfl Try.underlying55 Try.sizeOf64 rfl rfl eqo rfl hmn)) ?_
          refine lexQ rfl rfl rfl rfl (fun H hM => (yFieldAddr rfl Try.underlying64 rfl Try.sizeOf3 rfl rfl)) ?_
          refine lexQ rfl rfl rfl rfl (fun H hM => (yLoad rfl Try.underlying3 rfl rfl (hM.ext.cell (show cellH Hr _ = some (.int .i64 (c.ix m : Nat)) from hqo2)))) ?_
          refine lexQ rfl rfl rfl rfl (fun H hM => (yIdxP rfl Try.underlying35 Try.sizeOf72 rfl rfl eqQ rfl hiq)) ?_
          refine lexQ rfl rfl rfl rfl (fun H hM => (yFieldAddr rfl Try.underlying72 rfl Try.sizeOf44 rfl rfl)) ?_
          refine lexQ rfl rfl rfl rfl (fun H hM => (yLoad rfl Try.underlying44 rfl rfl (hM.ext.cell (show cellH Hr _ = some (.slice y.CA y.clk.length y.cc) from hqQ 5 _ rfl)))) ?_
          -- e slot 121: call F15<farandole/log.Receive> t104 t105 [i:i64:4] t108 t120
          refine lexX0 rfl rfl rfl rfl rfl (by simp) (fun hM121 => stepCall rfl Try.call15 rfl ?_)
          refine (receiveL_c L.l L.A L.c r 4 ⟨r, false, p, 0, []⟩ none 0 y.clk y.CA y.cc Hr ((cm2.rdLogs ci.lab).2 L hL2) (ci.sm hr4 hL3) (Rd.nil _ _) (Nat.zero_le _) hye (by rw [hyc, ci.inv.cklen m hmn]; decide)).mono ?_
          rintro v HC ⟨B1, cb1, l1, rfl, lo, hm1, x1⟩
          refine ⟨x1, fun _ => ?_⟩
          rw [hL3, hyc, hrecv] at hm1 ⊢
          dsimp only at hm1
          have hN := lo.lgM (N := ⟨B1, cb1, l1⟩) cm2.tlt hbg
          have hpr := cm2.pr.put (r := r) (N := ⟨B1, cb1, l1⟩) cm2.lg lo (Nat.le_refl _)
          have hEC := hEr.trans x1
          have hbC := Nat.le_trans hbg x1.size
          have cmC := cm2.ext x1
          have owC := owR.ext x1
          clear lo cm2 cm1 owR ow1 hKg hKr kg hEg hEr cmk osv
          refine lexQ rfl rfl rfl rfl (fun H hM => (yMove (v := .tuple _) rfl rfl)) ?_
          refine lexQ rfl rfl rfl rfl (fun H hM => (yExtract (v := .slice _ _ _) rfl rfl rfl)) ?_
          refine lexQ rfl rfl rfl rfl (fun H hM => (yExtract (v := .int _ _) rfl rfl rfl)) ?_
          refine lexQ rfl rfl rfl rfl (fun H hM => (yAssign (v := .slice _ _ _) rfl rfl)) ?_
          -- tail
          refine lexNil0 rfl (fun hM => ?_)
          refine seqQ rfl rfl (yAssign (v := .int _ _) rfl rfl) ?_
          refine seqNil ?_
          refine hF50 _ _ ?_; clear hF50
          refine wpSeq fun F55 hF55 => ?_
          refine wpSeq fun F56 hF56 => ?_
          refine wpRegion ?_
          refine seqQ rfl rfl (yMove (v := .int _ _) rfl rfl) ?_
          refine seqQ rfl rfl (yNeq rfl rfl rfl) ?_
          refine seqNil ?_
          refine hF56 _ _ ?_; clear hF56
          -- if t150
          refine wpF rfl ?_
          refine wpSkip ?_
          refine hF55 _ _ ?_; clear hF55
          refine wpSeq fun F57 hF57 => ?_
          refine wpSeq fun F58 hF58 => ?_
          refine wpRegion ?_
          refine seqQ rfl rfl (yMove (v := .slice _ _ _) rfl rfl) ?_
          refine seqQ rfl rfl (yLen rfl Try.underlying55 rfl) ?_
          refine seqQ rfl rfl (yMove (v := .int _ _) rfl rfl) ?_
          refine seqNil ?_
          refine hF58 _ _ ?_; clear hF58
          -- loop
          refine wpBlock ?_
          refine wpLoopS [18, 19, 153, 154, 155, 156, 157, 158, 159, 160, 161, 162, 163, 164, 165, 166, 167, 168, 169, 170, 171, 172, 173, 174, 175, 176, 177, 178, 179, 180, 181, 182, 183] (fun z : Nat × List Bool => [(153, .int .i64 z.1)]) (fun z H' => z.1 ≤ c.n ∧ Keep [g12] HC H' ∧ Own eBool 4 H' Hb.size (.slice (some ⟨g12, 0, none⟩) (c.n + 1) (c.n + 1)) z.2 ∧ z.2.length = c.n + 1 ∧ ClP c (fun j => c.rl j = r ∨ some m = some j) z.1 0 z.2) (fun z => c.n - z.1) (0, w.set m true) ⟨rfl, trivial⟩ ⟨Nat.zero_le _, Keep.refl _ _, owC, (by rw [List.length_set]; exact hwl), ClP.init (row_mark hwl hmn hw)⟩ ?_
          rintro ⟨k, w⟩ Jk Hk ⟨hk, hKk, ow, hwl, hcl⟩
          dsimp only at hk ow hwl hcl
          refine wpSeq fun F59 hF59 => ?_
          refine wpRegion ?_
          refine seqQ rfl rfl (yLss rfl rfl rfl) ?_
          refine seqNil ?_
          refine hF59 _ _ ?_; clear hF59
          refine wpSeq fun F60 hF60 => ?_
          -- if t154
          refine wpIf rfl (fun hlk => ?_) (fun hlk => ?_)
          · skip
            have hkn : k < c.n := by dsimp only at hlk; omega
            refine wpSkip ?_
            refine hF60 _ _ ?_; clear hF60
            refine wpSeq fun F61 hF61 => ?_
            refine wpBlock ?_
            refine wpSeq fun F62 hF62 => ?_
            refine wpRegion ?_
            refine seqQ rfl rfl (yMove (v := .int _ _) rfl rfl) ?_
            refine seqQ rfl rfl (yAssign (v := .int _ _) rfl rfl) ?_
            refine seqNil ?_
            refine hF62 _ _ ?_; clear hF62
            refine wpSeq fun F63 hF63 => ?_
            refine wpRegion ?_
            refine seqQ rfl rfl (yMove (v := .int _ _) rfl rfl) ?_
            refine seqQ rfl rfl (yMove (v := .int _ _) rfl rfl) ?_
            refine seqNil ?_
            refine hF63 _ _ ?_; clear hF63
            -- loop
            refine wpBlock ?_
            refine wpLoopS [19, 157, 158, 159, 160, 161, 162, 163, 164, 165, 166, 167, 168, 169, 170, 171, 172, 173, 174, 175, 176, 177, 178, 179, 180, 181, 182] (fun z : Nat × List Bool => [(157, .int .i64 z.1)]) (fun z H' => z.1 ≤ k ∧ Keep [g12] HC H' ∧ Own eBool 4 H' Hb.size (.slice (some ⟨g12, 0, none⟩) (c.n + 1) (c.n + 1)) z.2 ∧ z.2.length = c.n + 1 ∧ ClP c (fun j => c.rl j = r ∨ some m = some j) k z.1 z.2) (fun z => k - z.1) (0, w) ⟨rfl, trivial⟩ ⟨Nat.zero_le _, hKk, ow, hwl, hcl⟩ ?_
            clear hKk ow hwl hcl
            rintro ⟨j, w⟩ Jj Hj ⟨hj, hKj, ow, hwl, hcl⟩
            dsimp only at hj ow hwl hcl
            refine wpSeq fun F64 hF64 => ?_
            refine wpRegion ?_
            refine seqQ rfl rfl (yLss rfl rfl rfl) ?_
            refine seqNil ?_
            refine hF64 _ _ ?_; clear hF64
            refine wpSeq fun F65 hF65 => ?_
            -- if t158
            refine wpIf rfl (fun hlj => ?_) (fun hlj => ?_)
            · skip
              have hjk : j < k := by dsimp only at hlj; omega
              have cmj := (cmC).keepX hKj
              have hbl := cmj.brd.1
              have hkb : k < c.before.length := by rw [ci.bl]; exact hkn
              have hkh : k < hs.length := by rw [hbl]; exact hkb
              obtain ⟨hrl, hrd⟩ := cmj.brd.2 k hs[k] c.before[k] (List.getElem?_eq_getElem hkh) (List.getElem?_eq_getElem hkb)
              have hbk := ci.brow k hkn
              rw [getD_lt hkb] at hbk
              obtain ⟨qb, eqb, hqb⟩ := (Own.rd (cmj.bef _ hvb)).2.at1 hkh
              obtain ⟨qr, eqr, hqr⟩ := hrd.rd.at1 (show j < c.before[k].length by omega)
              have hval : c.before[k][j] = (c.before.getD k []).getD j false := by rw [getD_lt hkb, getD_lt (show j < c.before[k].length by omega)]
              rw [hval] at hqr
              generalize hs[k] = hd at *
              rw [hbk] at hrl
              obtain ⟨h1, h2, h3⟩ := hd
              dsimp only at hrl eqr
              subst hrl
              have wj := rd_at ow (List.getElem?_eq_getElem (show j < w.length by omega))
              have wk := rd_at ow (List.getElem?_eq_getElem (show k < w.length by omega))
              rw [getD_row] at wj wk
              refine wpSkip ?_
              refine hF65 _ _ ?_; clear hF65
              refine wpSeq fun F66 hF66 => ?_
              refine wpBlock ?_
              refine wpSeq fun F67 hF67 => ?_
              refine wpRegion ?_
              refine seqQ rfl rfl (yMove (v := .int _ _) rfl rfl) ?_
              refine seqQ rfl rfl (yAssign (v := .int _ _) rfl rfl) ?_
              refine seqNil ?_
              refine hF67 _ _ ?_; clear hF67
              refine wpRegion ?_
              refine seqQ rfl rfl (yMove (v := .slice _ _ _) rfl rfl) ?_
              refine seqQ rfl rfl (yMove (v := .int _ _) rfl rfl) ?_
              refine seqQ rfl rfl (yMove (v := .slice _ _ _) rfl rfl) ?_
              refine seqQ rfl rfl (yMove (v := .int _ _) rfl rfl) ?_
              refine seqQ rfl rfl (yIdx1 rfl Try.underlying69 Try.sizeOf4 rfl rfl rfl (show j < c.n + 1 by omega)) ?_
              refine seqQ rfl rfl (yLoad rfl Try.underlying4 rfl rfl (show cellH Hj _ = some (.bool (w.getD j false)) from wj)) ?_
              -- guard t166
              cases hwj : w.getD j false
              · skip
                refine seqQ rfl rfl (yMove (v := .bool false) rfl rfl) ?_
                refine seqQ rfl rfl (yMove (v := .slice _ _ _) rfl rfl) ?_
                refine seqQ rfl rfl (yMove (v := .int _ _) rfl rfl) ?_
                refine seqQ rfl rfl (yIdx1 rfl Try.underlying69 Try.sizeOf4 rfl rfl rfl (show k < c.n + 1 by omega)) ?_
                refine seqQ rfl rfl (yLoad rfl Try.underlying4 rfl rfl (show cellH Hj _ = some (.bool (w.getD k false)) from wk)) ?_
                -- guard t171
                cases hwk : w.getD k false
                · skip
                  refine seqQ rfl rfl (yMove (v := .bool false) rfl rfl) ?_
                  refine seqU rfl rfl ?_
                  refine seqU rfl rfl ?_
                  refine seqU rfl rfl ?_
                  refine seqU rfl rfl ?_
                  refine seqU rfl rfl ?_
                  refine seqU rfl rfl ?_
                  refine seqU rfl rfl ?_
                  refine seqQ rfl rfl (yPickF (v := .bool _) rfl rfl rfl) ?_
                  refine seqQ rfl rfl (yPickF (v := .bool _) rfl rfl rfl) ?_
                  refine seqQ rfl rfl (yIdx1 rfl Try.underlying69 Try.sizeOf4 rfl rfl rfl (show j < c.n + 1 by omega)) ?_
                  -- e slot None: store T4 t181 t180
                  -- e slot None: store T4 t181 t180
                  refine seqE0 rfl rfl (stepStoreOwn ow rfl Try.sizeOf4 rfl rfl rfl rfl (by omega) ?_)
                  intro Hs os hKs
                  refine seqNil ?_
                  refine hF66 _ _ ?_; clear hF66
                  refine wpRegion ?_
                  refine seqQ rfl rfl (yAdd rfl rfl rfl (by unfold In64; omega)) ?_
                  refine seqQ rfl rfl (yMove (v := .int _ _) rfl rfl) ?_
                  refine seqNil ?_
                  -- end loop
                  exact loopEnd (j + 1, _) (by repeat (first | (with_reducible exact Agree.refl _ _) | refine Agree.upd ?_ rfl | refine Agree.over ?_ rfl)) (by dsimp only; omega) ⟨rfl, trivial⟩ ⟨by dsimp only; omega, hKj.trans hKs, os, by dsimp only; rw [List.length_set]; exact hwl, hcl.step ci hkn hjk hwl (by rw [hwj, hwk, Bool.false_or, Bool.false_and])⟩
                · skip
                  refine seqQ rfl rfl (yMove (v := .bool true) rfl rfl) ?_
                  refine seqQ rfl rfl (yMove (v := .slice _ _ _) rfl rfl) ?_
                  refine seqQ rfl rfl (yMove (v := .int _ _) rfl rfl) ?_
                  refine seqQ rfl rfl (yIdxP1 rfl Try.underlying66 Try.sizeOf69 rfl rfl eqb rfl hkh) ?_
                  refine seqQ rfl rfl (yLoad rfl Try.underlying69 rfl rfl (show cellH Hj _ = some (.slice h1 (k + 1) h3) from hqb)) ?_
                  refine seqQ rfl rfl (yMove (v := .int _ _) rfl rfl) ?_
                  refine seqQ rfl rfl (yIdxP1 rfl Try.underlying69 Try.sizeOf4 rfl rfl eqr rfl (show j < k + 1 by omega)) ?_
                  refine seqQ rfl rfl (yLoad rfl Try.underlying4 rfl rfl (show cellH Hj _ = some (.bool ((c.before.getD k []).getD j false)) from hqr)) ?_
                  refine seqQ rfl rfl (yPickT (v := .bool _) rfl rfl rfl) ?_
                  refine seqQ rfl rfl (yPickF (v := .bool _) rfl rfl rfl) ?_
                  refine seqQ rfl rfl (yIdx1 rfl Try.underlying69 Try.sizeOf4 rfl rfl rfl (show j < c.n + 1 by omega)) ?_
                  -- e slot None: store T4 t181 t180
                  -- e slot None: store T4 t181 t180
                  refine seqE0 rfl rfl (stepStoreOwn ow rfl Try.sizeOf4 rfl rfl rfl rfl (by omega) ?_)
                  intro Hs os hKs
                  refine seqNil ?_
                  refine hF66 _ _ ?_; clear hF66
                  refine wpRegion ?_
                  refine seqQ rfl rfl (yAdd rfl rfl rfl (by unfold In64; omega)) ?_
                  refine seqQ rfl rfl (yMove (v := .int _ _) rfl rfl) ?_
                  refine seqNil ?_
                  -- end loop
                  exact loopEnd (j + 1, _) (by repeat (first | (with_reducible exact Agree.refl _ _) | refine Agree.upd ?_ rfl | refine Agree.over ?_ rfl)) (by dsimp only; omega) ⟨rfl, trivial⟩ ⟨by dsimp only; omega, hKj.trans hKs, os, by dsimp only; rw [List.length_set]; exact hwl, hcl.step ci hkn hjk hwl (by rw [hwj, hwk, Bool.false_or, Bool.true_and])⟩
              · skip
                refine seqQ rfl rfl (yMove (v := .bool true) rfl rfl) ?_
                refine seqU rfl rfl ?_
                refine seqU rfl rfl ?_
                refine seqU rfl rfl ?_
                refine seqU rfl rfl ?_
                refine seqU rfl rfl ?_
                refine seqU rfl rfl ?_
                refine seqU rfl rfl ?_
                refine seqU rfl rfl ?_
                refine seqU rfl rfl ?_
                refine seqU rfl rfl ?_
                refine seqU rfl rfl ?_
                refine seqU rfl rfl ?_
                refine seqU rfl rfl ?_
                refine seqQ rfl rfl (yPickT (v := .bool _) rfl rfl rfl) ?_
                refine seqQ rfl rfl (yIdx1 rfl Try.underlying69 Try.sizeOf4 rfl rfl rfl (show j < c.n + 1 by omega)) ?_
                -- e slot None: store T4 t181 t180
                -- e slot None: store T4 t181 t180
                refine seqE0 rfl rfl (stepStoreOwn ow rfl Try.sizeOf4 rfl rfl rfl rfl (by omega) ?_)
                intro Hs os hKs
                refine seqNil ?_
                refine hF66 _ _ ?_; clear hF66
                refine wpRegion ?_
                refine seqQ rfl rfl (yAdd rfl rfl rfl (by unfold In64; omega)) ?_
                refine seqQ rfl rfl (yMove (v := .int _ _) rfl rfl) ?_
                refine seqNil ?_
                -- end loop
                exact loopEnd (j + 1, _) (by repeat (first | (with_reducible exact Agree.refl _ _) | refine Agree.upd ?_ rfl | refine Agree.over ?_ rfl)) (by dsimp only; omega) ⟨rfl, trivial⟩ ⟨by dsimp only; omega, hKj.trans hKs, os, by dsimp only; rw [List.length_set]; exact hwl, hcl.step ci hkn hjk hwl (by rw [hwj, Bool.true_or])⟩
            · skip
              obtain rfl : j = k := by dsimp only at hlj; omega
              refine wpExit ?_
              refine hF61 _ _ ?_; clear hF61
              refine wpRegion ?_
              refine seqQ rfl rfl (yAdd rfl rfl rfl (by unfold In64; omega)) ?_
              refine seqQ rfl rfl (yMove (v := .int _ _) rfl rfl) ?_
              refine seqNil ?_
              -- end loop
              exact loopEnd (j + 1, w) (by repeat (first | (with_reducible exact Agree.refl _ _) | refine Agree.upd ?_ rfl | refine Agree.over ?_ rfl)) (by dsimp only; omega) ⟨rfl, trivial⟩ ⟨by dsimp only; omega, hKj, ow, hwl, hcl.next ci hkn⟩
          obtain rfl : k = c.n := by dsimp only at hlk; omega
          have hrow := hcl.row hwl
          have cm3 := (cmC).keepX hKk
          obtain ⟨L3, hL1, hL2, hL3⟩ := cm3.at_ hr4
          have hLl : L3.l.length = c.len r := by have := congrArg List.length hL3; rw [List.length_map] at this; exact this
          have hlr := ci.len_le hr4
          have hbk : H7.size ≤ Hk.size := Nat.le_trans hbC hKk.size
          have hlg3 := rd_at cm3.logs hL1
          refine wpExit ?_
          refine hF57 _ _ ?_; clear hF57
          refine wpSeq fun F68 hF68 => ?_
          refine wpRegion ?_
          refine seqQ rfl rfl (yMove (v := .slice _ _ _) rfl rfl) ?_
          refine seqQ rfl rfl (yMove (v := .int _ _) rfl rfl) ?_
          refine seqQ rfl rfl (yMove (v := .slice _ _ _) rfl rfl) ?_
          refine seqQ rfl rfl (yMove (v := .int _ _) rfl rfl) ?_
          refine seqQ rfl rfl (yIdx1 rfl Try.underlying36 Try.sizeOf35 rfl rfl rfl hr4) ?_
          refine seqQ rfl rfl (yLoad rfl Try.underlying35 rfl rfl (show cellH Hk _ = some (.slice L3.A (c.len r) L3.c) from by rw [← hLl]; exact hlg3)) ?_
          refine seqQ rfl rfl (yLen rfl Try.underlying35 rfl) ?_
          refine seqQ rfl rfl (yBuild (pl := [(0, 1), (1, 1)]) (vs := [(0, .int _ _), (1, .int _ _)]) rfl Try.underlying64 Try.zeroValue64 rfl (by unfold Places; kernel_rfl) rfl rfl) ?_
          refine seqN rfl rfl (nBuildSliceN (vs := [.agg _]) rfl Try.underlying55 Try.sizeOf64 Try.zeroValue64 rfl rfl rfl rfl rfl) (fun g192 H192 hx192 hB192 hg192 hl192 => ?_)
          -- e slot 193: builtin append t184 t192 : [55, 55]
          refine seqE rfl rfl (stepApp (c := ePl) ((cm3.ord _ hvo).ext hx192) rfl Try.underlying55 elem_pl rfl (by omega) rfl rfl rfl (Blk.rd (c := ePl) (l := [(r, c.len r)]) hB192) (by simp only [List.length_singleton]; omega) (by have := hx192.size; omega) ?_)
          intro v4 Hp op gp
          have cm4 := (cm3.ext hx192).ordA hvo gp op
          have hbp : H7.size ≤ Hp.size := Nat.le_trans (Nat.le_trans hbk hx192.size) gp.1.size
          have hw4 := cm3.wlt hvo
          have owp := (ow.ext hx192).keep gp.1 (fun g e hm => by
            rw [show g = g12 from (Option.some.inj e).symm, Option.mem_toList] at hm
            exact (cm3.xs g12 (.head _)).2.2 16 _ hvo hm)
          have hNp := ((hN.tr (Tr.of_keep (hKk.mono fun x hx => by rw [List.mem_singleton.1 hx]; exact .head _))).tr (Tr.of_ext hx192 _)).tr (rows_tr ([g12] ++ [gL, g6, g7]) hvo gp)
          have hEp : Ext H Hp := ((hEC.mine hKk (by simp; omega)).trans hx192).mine gp.1 (fun x hx => by rw [Option.mem_toList] at hx; have := (hw4 x hx).1; omega)
          have hvb4 := (List.getElem?_set_ne (show 16 ≠ 17 by decide) (l := ws) (a := v4)).trans hvb
          have hvo4 : ((ws).set 16 v4)[16]? = some v4 := List.getElem?_set_self (List.getElem?_eq_some_iff.1 hvo).1
          clear hN hKk hEC
          obtain ⟨OA2, oc2, rfl, -⟩ := op.form
          refine seqQ rfl rfl (yAssign (v := .slice _ _ _) rfl rfl) ?_
          refine seqNil ?_
          refine hF68 _ _ ?_; clear hF68
          refine wpSeq fun F69 hF69 => ?_
          refine wpRegion ?_
          refine seqQ rfl rfl (yMove (v := .slice _ _ _) rfl rfl) ?_
          refine seqQ rfl rfl (yMove (v := .slice _ _ _) rfl rfl) ?_
          refine seqN rfl rfl (nBuildSlice (vs := [.slice _ _ _]) rfl Try.underlying66 Try.sizeOf69 Try.zeroValue69 rfl rfl rfl rfl) (fun g196 H196 hx196 hB196 hg196 hl196 => ?_)
          -- e slot 197: builtin append t194 t196 : [66, 66]
          refine seqE rfl rfl (stepApp (c := eHdr) ((cm4.bef _ hvb4).ext hx196) rfl Try.underlying66 elem_rows rfl (by omega) rfl rfl rfl (Blk.rd (c := eHdr) (l := [(some ⟨g12, 0, none⟩, c.n + 1, c.n + 1)]) hB196) (by have := cm4.brd.1; have := ci.bl; simp only [List.length_singleton]; dsimp only at *; omega) (by have := hx196.size; omega) ?_)
          intro v5 Hq oq gq
          have hbq : H7.size ≤ Hq.size := Nat.le_trans (Nat.le_trans hbp hx196.size) gq.1.size
          have hw5 := cm4.wlt hvb4
          have cm5 := ((cm4.ext hx196).dropX).befA hvb4 gq oq (row := w) hwl.symm (RdM.of ((Own.rd owp).2.ext hx196) fun p e hm => cm4.notT (by rw [show p = ⟨g12, 0, none⟩ from (Option.some.inj e).symm] at hm; exact hm))
          have hNq := ((hNp.tr (Tr.sub (M' := [] ++ [gL, g6, g7] ++ rowsB ((ws).set 16 _)) _ (fun x hx => List.mem_cons_of_mem _ hx))).tr (Tr.of_ext hx196 _)).tr (rows_tr ([] ++ [gL, g6, g7]) hvb4 gq)
          have hEq : Ext H Hq := (hEp.trans hx196).mine gq.1 (fun x hx => by rw [Option.mem_toList] at hx; have := (hw5 x hx).1; omega)
          have hvo5 := (List.getElem?_set_ne (show 17 ≠ 16 by decide) (l := (ws).set 16 _) (a := v5)).trans hvo4
          have hvb5 : (((ws).set 16 _).set 17 v5)[17]? = some v5 := List.getElem?_set_self (List.getElem?_eq_some_iff.1 hvb4).1
          clear hNp hEp
          obtain ⟨BA2, bc2, rfl, -⟩ := oq.form
          refine seqQ rfl rfl (yAssign (v := .slice _ _ _) rfl rfl) ?_
          refine seqNil ?_
          refine hF69 _ _ ?_; clear hF69
          refine wpRegion ?_
          refine seqQ rfl rfl (yMove (v := .slice _ _ _) rfl rfl) ?_
          refine seqQ rfl rfl (yMove (v := .int _ _) rfl rfl) ?_
          refine seqQ rfl rfl (yMove (v := .slice _ _ _) rfl rfl) ?_
          refine seqQ rfl rfl (yIdx1 rfl Try.underlying36 Try.sizeOf35 rfl rfl rfl hr4) ?_
          -- e slot None: store T35 t201 t200
          refine seqE0 rfl rfl (stepStoreOwn (z := ⟨B1, cb1, l1⟩) cm5.logs rfl Try.sizeOf35 rfl rfl rfl rfl (by rw [cm5.l4]; exact hr4) ?_)
          intro Hs os hKs
          have cm6 := cm5.logA hKs os hNq hpr
          have hEs : Ext H Hs := hEq.mine hKs (by simp; omega)
          refine seqNil ?_
          refine hF9 _ _ ?_; clear hF9
          refine wpRegion ?_
          refine seqQ rfl rfl (yAdd rfl rfl rfl (by unfold In64; omega)) ?_
          refine seqQ rfl rfl (yMove (v := .int _ _) rfl rfl) ?_
          refine seqNil ?_
          -- end loop
          exact loopEnd ⟨i + 1, _, _, _, _, _, _⟩ (by repeat (first | (with_reducible exact Agree.refl _ _) | refine Agree.upd ?_ rfl | refine Agree.over ?_ rfl)) (by dsimp only; omega) ⟨rfl, rfl, rfl, rfl, trivial⟩ ⟨hil, by show (c.order ++ [(r, c.len r)]).length ≤ i + 1; rw [List.length_append, List.length_singleton]; omega, hadd w hrow, cm6.cast (by
            show Conv.mk (c.logs.set r (LH.ents ⟨B1, cb1, l1⟩)) _ _ _ _ = Conv.mk _ _ _ _ _
            rw [show LH.ents ⟨B1, cb1, l1⟩ = _ from hm1]
            rw [Nat.mul_comm r 4]), hvo5, hvb5, hEs, Nat.le_trans hbq hKs.size⟩
  · skip
    refine wpExit ?_
    refine hF5 _ _ ?_; clear hF5
    refine wpSeq fun F70 hF70 => ?_
    refine wpRegion ?_
    refine seqQ rfl rfl (yMove (v := .slice _ _ _) rfl rfl) ?_
    refine seqQ rfl rfl (yMove (v := .slice _ _ _) rfl rfl) ?_
    refine seqQ rfl rfl (yMove (v := .slice _ _ _) rfl rfl) ?_
    refine seqQ rfl rfl (yAssign (v := .slice _ _ _) rfl rfl) ?_
    refine seqQ rfl rfl (yAssign (v := .slice _ _ _) rfl rfl) ?_
    refine seqQ rfl rfl (yAssign (v := .slice _ _ _) rfl rfl) ?_
    refine seqQ rfl rfl (yAssign (v := .bool _) rfl rfl) ?_
    refine seqNil ?_
    refine hF70 _ _ ?_; clear hF70
    -- ret
    refine wpRet (fin4 (v := .slice _ _ _) (v' := .slice _ _ _) (v'' := .slice _ _ _) (v3 := .bool _) rfl rfl rfl rfl rfl ?_)
    exact ⟨gL, g6, g7, H7.size, ⟨i, _, _, ws, lhs, hs, c⟩, rfl, hgL, hi, hn, ci, cm, hvo, hvb, hE, hbH⟩
end Go.Proofs.Ytbanngdijmglbaa
