/- Conversations: what holds of their logs. -/
import Derived.Test.YtbanngdijmglbaaN1
namespace Go.Proofs.Ytbanngdijmglbaa
open Go.RowKit

/-- The logs of a conversation, the order of the entries, what is before what, the messages that were sent and the number of those that were received. -/
structure Conv where
  logs : List (List Ent)
  order : List (Nat × Nat)
  before : List (List Bool)
  sent : List (List Nat)
  got : List Nat
namespace Conv
def L (c : Conv) (r : Nat) : List Ent := c.logs.getD r []
def n (c : Conv) : Nat := c.order.length
def rl (c : Conv) (k : Nat) : Nat := (c.order.getD k (0, 0)).1
def ix (c : Conv) (k : Nat) : Nat := (c.order.getD k (0, 0)).2
def len (c : Conv) (r : Nat) : Nat := (c.L r).length
def ck (c : Conv) (k : Nat) : List Int := clkAt c.logs (c.rl k) (c.ix k)
def bf (c : Conv) (k j : Nat) : Prop := (c.before.getD k []).getD j false = true
def sentOf (c : Conv) (p r : Nat) : List Nat := c.sent.getD (4 * p + r) []
def gotOf (c : Conv) (r p : Nat) : Nat := c.got.getD (4 * r + p) 0
end Conv
structure ConvI (c : Conv) : Prop where
  l4 : c.logs.length = 4
  tot : c.len 0 + c.len 1 + c.len 2 + c.len 3 = c.n
  s16 : c.sent.length = 16
  g16 : c.got.length = 16
  bl : c.before.length = c.n
  brow : ∀ k, k < c.n → (c.before.getD k []).length = k + 1
  inv : InvF c.n c.rl c.ix c.len c.ck c.bf
  val : ∀ r : Nat, r < 4 → ValidLog (c.L r) r 4
  lab : ∀ r, r < 4 → ∀ e ∈ c.L r, e.ev.label = 0 ∧ e.ev.values = []
  sends : ∀ p r : Nat, p < 4 → r < 4 → (sendsE (c.L p) r).map Ent.clk = (c.sentOf p r).map c.ck ∧ ∀ k ∈ c.sentOf p r, k < c.n ∧ c.rl k = p
  gots : ∀ r p : Nat, r < 4 → p < 4 → c.gotOf r p = gotN (c.L r) (c.len r) p ∧ c.gotOf r p ≤ (c.sentOf p r).length
  right : ∀ r i, r < 4 → i < c.len r → rightE c.logs r i
set_option maxRecDepth 100000 in
theorem getD_lt {α : Type} {l : List α} {z : α} {k : Nat} (h : k < l.length) : l.getD k z = l[k] := by
  rw [List.getD_eq_getElem?_getD, List.getElem?_eq_getElem h]
  rfl
set_option maxRecDepth 100000 in
theorem getD_app {α : Type} {l m : List α} {z : α} {k : Nat} (h : k < l.length) : (l ++ m).getD k z = l.getD k z := by
  rw [List.getD_eq_getElem?_getD, List.getD_eq_getElem?_getD, List.getElem?_append_left h]
set_option maxRecDepth 100000 in
theorem getD_end {α : Type} {l : List α} {x z : α} : (l ++ [x]).getD l.length z = x := by
  rw [List.getD_eq_getElem?_getD, List.getElem?_append_right (Nat.le_refl _), Nat.sub_self]
  rfl
set_option maxRecDepth 100000 in
theorem getD_setG {α : Type} {l : List α} {i j : Nat} {v z : α} (h : i < l.length) : (l.set i v).getD j z = if i = j then v else l.getD j z := by
  rw [List.getD_eq_getElem?_getD, List.getD_eq_getElem?_getD, List.getElem?_set]
  by_cases e : i = j
  · subst e
    rw [if_pos rfl, if_pos rfl, if_pos h]
    rfl
  · rw [if_neg e, if_neg e]
set_option maxRecDepth 100000 in
theorem mem_getD {c : List Int} {x : Int} (h : x ∈ c) : ∃ a, a < c.length ∧ c.getD a 0 = x := by
  obtain ⟨a, ha, rfl⟩ := List.getElem_of_mem h
  exact ⟨a, ha, getD_lt ha⟩
set_option maxRecDepth 100000 in
theorem okC4 {c : List Int} (hl : c.length = 4) (h : ∀ a, a < 4 → 0 ≤ c.getD a 0 ∧ c.getD a 0 ≤ 1099511627776) : okC c = true := by
  unfold okC
  refine decide_eq_true ⟨by omega, by omega, fun x hx => ?_, fun x hx => ?_⟩ <;> obtain ⟨a, ha, rfl⟩ := mem_getD hx <;> have := h a (by omega) <;> omega
set_option maxRecDepth 100000 in
theorem tickF4 {c : List Int} {r : Nat} (hl : c.length = 4) (hr : r < 4) (h : ∀ a, a < 4 → 0 ≤ c.getD a 0 ∧ c.getD a 0 ≤ 1000000) : tickF c r = (0, c.set r (c.getD r 0 + 1)) := by
  have ho := okC4 hl fun a ha => by have := h a ha; omega
  have h0 := h r hr
  unfold tickF
  rw [ho, if_neg (by simp), if_neg (by omega), Int.toNat_natCast, if_neg (by omega)]
set_option maxRecDepth 100000 in
theorem zip4 {a b : List Int} (ha : a.length = 4) (hb : b.length = 4) : (List.zipWith max a b).length = 4 ∧ ∀ i, i < 4 → (List.zipWith max a b).getD i 0 = max (a.getD i 0) (b.getD i 0) := by
  have hl : (List.zipWith max a b).length = 4 := by rw [List.length_zipWith, ha, hb]; rfl
  refine ⟨hl, fun i hi => ?_⟩
  rw [getD_lt (by omega), getD_lt (by omega), getD_lt (by omega), List.getElem_zipWith]
set_option maxRecDepth 100000 in
/-- The message of a right entry was sent. -/
theorem sent_there {ls : List (List Ent)} {r i : Nat} (h : rightE ls r i) (hs : (evAt ls r i).send = false) : ∃ x, (sendsE (ls.getD (evAt ls r i).peer.toNat []) r)[gotN (ls.getD r []) i (evAt ls r i).peer]? = some x ∧ receiveF (beforeC ls r i) x.clk r = (0, clkAt ls r i) := by
  unfold rightE needC at h
  rw [if_neg (by rw [hs]; simp)] at h
  unfold sentC at h
  cases hx : (sendsE (ls.getD (evAt ls r i).peer.toNat []) r)[gotN (ls.getD r []) i (evAt ls r i).peer]? with
  | some x => rw [hx] at h; exact ⟨x, rfl, h⟩
  | none =>
    rw [hx] at h
    have hj : ¬ (joinF (beforeC ls r i) []).1 = 0 := by
      rw [joinF_bad (fun hc => by have := hc.2.1; simp [okC] at this)]
      decide
    rw [show receiveF (beforeC ls r i) [] r = ((joinF (beforeC ls r i) []).1, []) from if_neg hj] at h
    exact absurd (congrArg Prod.fst h) hj
set_option maxRecDepth 100000 in
theorem recv_of {P M C : List Int} {r : Int} (h : receiveF P M r = (0, C)) : okC P = true ∧ okC M = true ∧ P.length = M.length ∧ tickF (List.zipWith max P M) r = (0, C) := by
  by_cases hj : okC P = true ∧ okC M = true ∧ P.length = M.length
  · unfold receiveF at h
    rw [joinF_ok hj, if_pos rfl] at h
    exact ⟨hj.1, hj.2.1, hj.2.2, h⟩
  · unfold receiveF at h
    rw [joinF_bad hj, if_neg (by decide)] at h
    cases h
set_option maxRecDepth 100000 in
theorem tick_of {P C : List Int} {r : Int} (h : tickF P r = (0, C)) : okC P = true ∧ (0 ≤ r ∧ r < P.length) ∧ C = P.set r.toNat (P.getD r.toNat 0 + 1) := by
  unfold tickF at h
  split at h
  · cases h
  · rename_i ho
    split at h
    · cases h
    · split at h
      · cases h
      · exact ⟨by simpa using ho, by omega, (congrArg Prod.snd h).symm⟩
set_option maxRecDepth 100000 in
theorem sendsE_app (l : List Ent) (e : Ent) (p : Int) : sendsE (l ++ [e]) p = sendsE l p ++ if e.ev.send = true ∧ e.ev.peer = p then [e] else [] := by
  unfold sendsE
  rw [List.filter_append]
  congr 1
  by_cases h : e.ev.send = true ∧ e.ev.peer = p
  · rw [if_pos h, List.filter_cons_of_pos (by simpa using h)]; rfl
  · rw [if_neg h, List.filter_cons_of_neg (by simpa using h)]; rfl
set_option maxRecDepth 100000 in
theorem gotN_app {l m : List Ent} {i : Nat} (h : i ≤ l.length) (p : Int) : gotN (l ++ m) i p = gotN l i p := by
  unfold gotN
  rw [List.take_append_of_le_length h]
set_option maxRecDepth 100000 in
/-- A further entry leaves the others right. -/
theorem right_app {ls ls' : List (List Ent)} {r a i : Nat} {e : Ent} (hl : ls'.length = ls.length) (hls : ∀ q, ls'.getD q [] = if r = q then ls.getD r [] ++ [e] else ls.getD q []) (hi : i < (ls.getD a []).length) (h : rightE ls a i) : rightE ls' a i := by
  have hck : ∀ k, k < (ls.getD a []).length → (ls'.getD a []).getD k ent0 = (ls.getD a []).getD k ent0 := fun k hk => by
    rw [hls]
    by_cases e1 : r = a
    · rw [if_pos e1]
      subst e1
      exact getD_app hk
    · rw [if_neg e1]
  have hb : beforeC ls' a i = beforeC ls a i := by
    unfold beforeC clkAt
    rw [hl]
    by_cases h0 : i = 0
    · rw [if_pos h0, if_pos h0]
    · rw [if_neg h0, if_neg h0, hck _ (by omega)]
  have he : evAt ls' a i = evAt ls a i := by unfold evAt; rw [hck i hi]
  have hc : clkAt ls' a i = clkAt ls a i := by unfold clkAt; rw [hck i hi]
  have hg : ∀ p, gotN (ls'.getD a []) i p = gotN (ls.getD a []) i p := fun p => by
    rw [hls]
    by_cases e1 : r = a
    · rw [if_pos e1]
      subst e1
      exact gotN_app (by omega) p
    · rw [if_neg e1]
  cases hs : (evAt ls a i).send with
  | true =>
    unfold rightE needC at h ⊢
    rw [he, hb, hc]
    rw [if_pos hs] at h ⊢
    exact h
  | false =>
    obtain ⟨x, hx, hrx⟩ := sent_there h hs
    unfold rightE needC
    rw [he, hb, hc, if_neg (by rw [hs]; simp), hg]
    unfold sentC
    have : (sendsE (ls'.getD (evAt ls a i).peer.toNat []) a)[gotN (ls.getD a []) i (evAt ls a i).peer]? = some x := by
      rw [hls]
      by_cases e1 : r = (evAt ls a i).peer.toNat
      · rw [if_pos e1, sendsE_app, e1, List.getElem?_append_left (List.getElem?_eq_some_iff.1 hx).1]
        exact hx
      · rw [if_neg e1]; exact hx
    rw [this]
    exact hrx
set_option maxRecDepth 100000 in
/-- A log with a further entry. -/
theorem valid_app {l : List Ent} {r : Nat} {e : Ent} (h : ValidLog l r 4) (hl : l.length < 1000) (hst : standsE e.ev r 4) (ho : okC e.clk = true) (h4 : e.clk.length = 4) (hown : e.clk.getD r 0 = (l.length : Int) + 1) (hle : 0 < l.length → leB (l.getD (l.length - 1) ent0).clk e.clk = true) : ValidLog (l ++ [e]) r 4 := by
  refine ⟨h.1, h.2.1, by rw [List.length_append, List.length_singleton]; omega, fun k hk => ?_⟩
  rw [List.length_append, List.length_singleton] at hk
  unfold EntOk
  rcases Nat.lt_or_ge k l.length with g | g
  · rw [getD_app g]
    obtain ⟨p1, p2, p3, p4, p5⟩ := h.2.2.2 k g
    refine ⟨p1, p2, p3, p4, fun h0 => ?_⟩
    rw [getD_app (by omega)]
    exact p5 h0
  · obtain rfl : k = l.length := by omega
    rw [getD_end]
    refine ⟨hst, ho, by omega, by rw [Int.toNat_natCast]; exact hown, fun h0 => ?_⟩
    rw [getD_app (by omega)]
    exact hle h0
set_option maxRecDepth 100000 in
theorem lastC_at {l : List Ent} (h : 0 < l.length) (roles : Int) : lastC l roles = (l.getD (l.length - 1) ent0).clk := by
  unfold lastC
  rw [List.getLast?_eq_getElem?, getD_lt (by omega), List.getElem?_eq_getElem (by omega)]
section
variable {c : Conv}
set_option maxRecDepth 100000 in
theorem ConvI.len_le (h : ConvI c) {r : Nat} (hr : r < 4) : c.len r ≤ c.n := by
  have key : ∀ m, m ≤ c.len r → m ≤ c.n ∧ ∀ i, i < m → ∃ k, i ≤ k ∧ k < c.n ∧ c.rl k = r ∧ c.ix k = i := by
    intro m
    induction m with
    | zero => intro _; exact ⟨Nat.zero_le _, fun i hi => by omega⟩
    | succ m ih =>
      intro hm
      obtain ⟨h1, h2⟩ := ih (by omega)
      have hnew : ∃ k, m ≤ k ∧ k < c.n ∧ c.rl k = r ∧ c.ix k = m := by
        obtain ⟨k, hk, e1, e2⟩ := h.inv.cover r m hr (by omega)
        rcases Nat.eq_zero_or_pos m with h0 | h0
        · exact ⟨k, by omega, hk, e1, e2⟩
        · obtain ⟨j, hj, hj2, e3, e4⟩ := h2 (m - 1) (by omega)
          rcases Nat.lt_trichotomy j k with g | g | g
          · exact ⟨k, by omega, hk, e1, e2⟩
          · subst g; omega
          · have := h.inv.mono k j g hj2 (by rw [e1, e3])
            omega
      obtain ⟨k, hk⟩ := hnew
      refine ⟨by omega, fun i hi => ?_⟩
      rcases Nat.lt_or_ge i m with g | g
      · exact h2 i g
      · obtain rfl : i = m := by omega
        exact ⟨k, hk⟩
  exact (key _ (Nat.le_refl _)).1
set_option maxRecDepth 100000 in
theorem ConvI.past (h : ConvI c) {r : Nat} (hr : r < 4) : PastC c.n r c.rl c.ix c.len c.ck (lastC (c.L r) 4) ∧ (lastC (c.L r) 4).length = 4 ∧ lastC (c.L r) 4 = beforeC c.logs r (c.len r) := by
  rcases Nat.eq_zero_or_pos (c.len r) with h0 | h0
  · have hn : c.L r = [] := List.eq_nil_of_length_eq_zero h0
    rw [hn, lastC_nil, h0]
    refine ⟨.inl ⟨h0, fun a ha => ?_⟩, rfl, ?_⟩
    · rw [List.getD_eq_getElem?_getD, List.getElem?_replicate]
      split <;> rfl
    · unfold beforeC
      rw [if_pos rfl, h.l4]
      rfl
  · obtain ⟨k, hk, e1, e2⟩ := h.inv.cover r (c.len r - 1) hr (by omega)
    have e : lastC (c.L r) 4 = c.ck k := by
      rw [lastC_at h0]
      unfold Conv.ck
      rw [e1, e2]
      rfl
    rw [e]
    refine ⟨.inr ⟨k, hk, e1, by omega, fun a _ => rfl⟩, h.inv.cklen k hk, ?_⟩
    unfold beforeC
    rw [if_neg (by omega)]
    unfold Conv.ck
    rw [e1, e2]
/-- A conversation with a further event. -/
def Conv.add (c : Conv) (r : Nat) (e : Ent) (w : List Bool) (sent : List (List Nat)) (got : List Nat) : Conv := ⟨c.logs.set r (c.L r ++ [e]), c.order ++ [(r, c.len r)], c.before ++ [w], sent, got⟩
set_option maxRecDepth 100000 in
theorem ConvI.add (h : ConvI c) (hn : c.n < 900) {r p : Nat} (hr : r < 4) (hp : p < 4) (hne : p ≠ r) {snd : Bool} {msg : Option Nat} {M C : List Int} {w : List Bool} {sent : List (List Nat)} {got : List Nat} (hM : MsgC c.n msg c.ck M)
    (hw1 : w.length = c.n + 1) (hw : ∀ j, w.getD j false = true ↔ (j < c.n ∧ (c.rl j = r ∨ msg = some j)) ∨ ∃ k, k < c.n ∧ (c.rl k = r ∨ msg = some k) ∧ c.bf k j)
    (n4 : C.length = 4) (n5 : C.getD r 0 = (c.len r : Int) + 1) (n6 : ∀ a, a < 4 → a ≠ r → C.getD a 0 = max ((lastC (c.L r) 4).getD a 0) (M.getD a 0))
    (hs16 : sent.length = 16) (hg16 : got.length = 16)
    (hsent : ∀ a b, a < 4 → b < 4 → sent.getD (4 * a + b) [] = c.sentOf a b ++ if snd = true ∧ a = r ∧ b = p then [c.n] else [])
    (hgot : ∀ a b, a < 4 → b < 4 → got.getD (4 * a + b) 0 = c.gotOf a b + if snd = false ∧ a = r ∧ b = p then 1 else 0)
    (hroom : snd = false → c.gotOf r p < (c.sentOf p r).length)
    (hneed : (if snd = true then tickF (lastC (c.L r) 4) r else receiveF (lastC (c.L r) 4) (sentC (c.L p) r (gotN (c.L r) (c.len r) p)) r) = (0, C)) :
    ConvI (c.add r ⟨⟨r, snd, p, 0, []⟩, C⟩ w sent got) := by
  obtain ⟨P1, P2, P3⟩ := h.past hr
  have hl4 : ∀ q, (c.logs.set r (c.L r ++ [⟨⟨r, snd, p, 0, []⟩, C⟩])).getD q [] = if r = q then c.logs.getD r [] ++ [⟨⟨r, snd, p, 0, []⟩, C⟩] else c.logs.getD q [] := fun q => getD_setG (by rw [h.l4]; exact hr)
  generalize he : (⟨⟨r, snd, p, 0, []⟩, C⟩ : Ent) = e at *
  have ee : e.ev = ⟨r, snd, p, 0, []⟩ := by rw [← he]
  have ec : e.clk = C := by rw [← he]
  have hL : ∀ q, (c.add r e w sent got).L q = if r = q then c.L r ++ [e] else c.L q := hl4
  have hLo : ∀ q, q ≠ r → (c.add r e w sent got).L q = c.L q := fun q hq => by rw [hL, if_neg (Ne.symm hq)]
  have hLr : (c.add r e w sent got).L r = c.L r ++ [e] := by rw [hL, if_pos rfl]
  have en : (c.add r e w sent got).n = c.n + 1 := by
    show (c.order ++ [_]).length = _
    rw [List.length_append, List.length_singleton]
    rfl
  have erl : ∀ k, k < c.n → (c.add r e w sent got).rl k = c.rl k := fun k hk => by
    show ((c.order ++ [_]).getD k (0, 0)).1 = _
    rw [getD_app hk]
    rfl
  have eix : ∀ k, k < c.n → (c.add r e w sent got).ix k = c.ix k := fun k hk => by
    show ((c.order ++ [_]).getD k (0, 0)).2 = _
    rw [getD_app hk]
    rfl
  have erln : (c.add r e w sent got).rl c.n = r := by
    show ((c.order ++ [_]).getD c.order.length (0, 0)).1 = _
    rw [getD_end]
  have eixn : (c.add r e w sent got).ix c.n = c.len r := by
    show ((c.order ++ [_]).getD c.order.length (0, 0)).2 = _
    rw [getD_end]
  have hca : ∀ a i, i < c.len a → clkAt (c.add r e w sent got).logs a i = clkAt c.logs a i := fun a i hi => by
    show (((c.add r e w sent got).L a).getD i ent0).clk = ((c.L a).getD i ent0).clk
    rw [hL]
    by_cases e1 : r = a
    · subst e1
      rw [if_pos rfl, getD_app hi]
    · rw [if_neg e1]
  have eck : ∀ k, k < c.n → (c.add r e w sent got).ck k = c.ck k := fun k hk => by
    show clkAt _ _ _ = clkAt _ _ _
    rw [erl k hk, eix k hk]
    exact hca _ _ (h.inv.role k hk).2
  have eckn : (c.add r e w sent got).ck c.n = C := by
    show clkAt _ _ _ = _
    rw [erln, eixn]
    show (((c.add r e w sent got).L r).getD (c.L r).length ent0).clk = C
    rw [hLr, getD_end, ec]
  have ebf : ∀ k j, k < c.n → ((c.add r e w sent got).bf k j ↔ c.bf k j) := fun k j hk => by
    show ((c.before ++ [w]).getD k []).getD j false = true ↔ _
    rw [getD_app (by rw [h.bl]; exact hk)]
    rfl
  have elen : ∀ a, a ≠ r → (c.add r e w sent got).len a = c.len a := fun a ha => by
    show ((c.add r e w sent got).L a).length = _
    rw [hLo a ha]
    rfl
  have elenr : (c.add r e w sent got).len r = c.len r + 1 := by
    show ((c.add r e w sent got).L r).length = _
    rw [hLr, List.length_append, List.length_singleton]
    rfl
  have hlr := h.len_le hr
  have hrng := P1.rng h.inv
  have hMr := hM.rng h.inv
  have hln := fun a ha => h.len_le (r := a) ha
  refine ⟨?_, ?_, hs16, hg16, ?_, ?_, ?_, ?_, ?_, ?_, ?_, ?_⟩
  · show (c.logs.set r _).length = 4
    rw [List.length_set]
    exact h.l4
  · have := h.tot
    rw [en]
    rcases (show r = 0 ∨ r = 1 ∨ r = 2 ∨ r = 3 by omega) with e1 | e1 | e1 | e1 <;> subst e1
    · rw [elenr, elen 1 (by decide), elen 2 (by decide), elen 3 (by decide)]; omega
    · rw [elenr, elen 0 (by decide), elen 2 (by decide), elen 3 (by decide)]; omega
    · rw [elenr, elen 0 (by decide), elen 1 (by decide), elen 3 (by decide)]; omega
    · rw [elenr, elen 0 (by decide), elen 1 (by decide), elen 2 (by decide)]; omega
  · show (c.before ++ [w]).length = _
    rw [List.length_append, List.length_singleton, h.bl, en]
  · intro k hk
    rw [en] at hk
    show ((c.before ++ [w]).getD k []).length = _
    rcases Nat.lt_or_ge k c.n with g | g
    · rw [getD_app (by rw [h.bl]; exact g)]
      exact h.brow k g
    · obtain rfl : k = c.before.length := by rw [h.bl]; omega
      rw [getD_end, hw1, h.bl]
  · rw [en]
    refine h.inv.step hr P1 hM erl eix (fun a _ ha => elen a ha) eck ebf erln eixn elenr (by rw [eckn]; exact n4) (by rw [eckn]; exact n5) (by rw [eckn]; exact n6) fun j => ?_
    show ((c.before ++ [w]).getD c.n []).getD j false = true ↔ _
    rw [← h.bl, getD_end, h.bl]
    exact hw j
  · intro a ha
    by_cases e1 : a = r
    · subst e1
      rw [hLr]
      refine valid_app (h.val a ha) (show c.len a < 1000 by omega) (by rw [ee]; exact ⟨rfl, by show (p : Int) ≠ a; omega, by show (0 : Int) ≤ p; omega, by show (p : Int) < 4; omega, Int.le_refl _, by show (0 : Int) < 40; decide, by show ((0 : Nat) : Int) ≤ 4; decide⟩) (by
        rw [ec]
        refine okC4 n4 fun b hb => ?_
        by_cases e2 : b = a
        · rw [e2, n5]; omega
        · rw [n6 b hb e2]
          have := hrng b hb
          have := hMr b hb
          have := hln b hb
          omega) (by rw [ec]; exact n4) (by rw [ec]; exact n5) fun h0 => ?_
      rw [ec, ← lastC_at h0 4, leB_iff _ _ (by rw [P2, n4])]
      intro b hb
      rw [P2] at hb
      by_cases e2 : b = a
      · rw [e2, n5]
        have := hrng a ha
        omega
      · rw [n6 b hb e2]
        exact Int.le_max_left _ _
    · rw [hLo a e1]
      exact h.val a ha
  · intro a ha x hx
    by_cases e1 : a = r
    · subst e1
      rw [hLr] at hx
      rcases List.mem_append.1 hx with hx | hx
      · exact h.lab a ha x hx
      · rw [List.mem_singleton.1 hx, ee]
        exact ⟨rfl, rfl⟩
    · rw [hLo a e1] at hx
      exact h.lab a ha x hx
  · intro a b ha hb
    obtain ⟨s1, s2⟩ := h.sends a b ha hb
    have hso : (c.add r e w sent got).sentOf a b = c.sentOf a b ++ if snd = true ∧ a = r ∧ b = p then [c.n] else [] := hsent a b ha hb
    have hmap : (c.sentOf a b).map (c.add r e w sent got).ck = (c.sentOf a b).map c.ck := List.map_congr_left fun k hk => eck k (s2 k hk).1
    constructor
    · rw [hso, List.map_append, hmap, ← s1]
      by_cases e1 : a = r
      · subst e1
        rw [hLr, sendsE_app, List.map_append, ee]
        congr 1
        dsimp only
        by_cases e2 : snd = true ∧ b = p
        · rw [if_pos ⟨e2.1, by rw [e2.2]⟩, if_pos ⟨e2.1, rfl, e2.2⟩, List.map_cons, List.map_cons, List.map_nil, List.map_nil, eckn, ec]
        · rw [if_neg (fun hc => e2 ⟨hc.1, by have := hc.2; omega⟩), if_neg (fun hc => e2 ⟨hc.1, hc.2.2⟩)]
          rfl
      · rw [hLo a e1, if_neg (fun hc => e1 hc.2.1), List.map_nil, List.append_nil]
    · intro k hk
      rw [hso] at hk
      rcases List.mem_append.1 hk with hk | hk
      · have := s2 k hk
        rw [en, erl k this.1]
        exact ⟨by omega, this.2⟩
      · split at hk
        · rename_i hc
          rw [List.mem_singleton.1 hk, en, erln]
          exact ⟨by omega, hc.2.1.symm⟩
        · cases hk
  · intro a b ha hb
    obtain ⟨g1, g2⟩ := h.gots a b ha hb
    have hgo : (c.add r e w sent got).gotOf a b = c.gotOf a b + if snd = false ∧ a = r ∧ b = p then 1 else 0 := hgot a b ha hb
    have hso : (c.add r e w sent got).sentOf b a = c.sentOf b a ++ if snd = true ∧ b = r ∧ a = p then [c.n] else [] := hsent b a hb ha
    constructor
    · rw [hgo]
      by_cases e1 : a = r
      · subst e1
        rw [elenr, hLr, gotN_succ _ (show (c.len a) < (c.L a ++ [e]).length by rw [List.length_append, List.length_singleton]; exact Nat.lt_succ_self _), gotN_app (l := c.L a) (i := c.len a) (Nat.le_refl _), ← g1]
        rw [show (c.L a ++ [e]).getD (c.len a) ent0 = e from getD_end, ee]
        congr 1
        dsimp only
        by_cases e2 : snd = false ∧ b = p
        · rw [if_pos ⟨e2.1, rfl, e2.2⟩, if_pos ⟨e2.1, by rw [e2.2]⟩]
        · rw [if_neg (fun hc => e2 ⟨hc.1, hc.2.2⟩), if_neg (fun hc => e2 ⟨hc.1, by have := hc.2; omega⟩)]
      · rw [elen a e1, hLo a e1, if_neg (fun hc => e1 hc.2.1), Nat.add_zero]
        exact g1
    · rw [hgo, hso, List.length_append]
      by_cases e2 : snd = false ∧ a = r ∧ b = p
      · obtain ⟨q1, q2, q3⟩ := e2
        have := hroom q1
        rw [if_pos ⟨q1, q2, q3⟩, q2, q3]
        omega
      · rw [if_neg e2]
        omega
  · intro a i ha hi
    rcases Nat.lt_or_ge i (c.len a) with g | g
    · exact right_app (ls := c.logs) (r := r) (e := e) (by show (c.logs.set r _).length = _; rw [List.length_set]) hl4 g (h.right a i ha g)
    · have e1 : a = r := by
        refine Decidable.byContradiction fun hc => ?_
        rw [elen a hc] at hi
        omega
      subst e1
      obtain rfl : i = c.len a := by rw [elenr] at hi; omega
      have h1 : beforeC (c.add a e w sent got).logs a (c.len a) = lastC (c.L a) 4 := by
        rw [P3]
        unfold beforeC
        by_cases h0 : c.len a = 0
        · rw [if_pos h0, if_pos h0]
          congr 1
          show (c.logs.set a _).length = _
          rw [List.length_set]
        · rw [if_neg h0, if_neg h0]
          exact hca a _ (by omega)
      have h2 : evAt (c.add a e w sent got).logs a (c.len a) = ⟨a, snd, p, 0, []⟩ := by
        show (((c.add a e w sent got).L a).getD (c.L a).length ent0).ev = _
        rw [hLr, getD_end, ee]
      have h3 : clkAt (c.add a e w sent got).logs a (c.len a) = C := by
        show (((c.add a e w sent got).L a).getD (c.L a).length ent0).clk = _
        rw [hLr, getD_end, ec]
      unfold rightE needC
      rw [h1, h2, h3]
      dsimp only
      rw [Int.toNat_natCast, show (c.add a e w sent got).logs.getD p [] = c.L p from hLo p hne, show (c.add a e w sent got).logs.getD a [] = c.L a ++ [e] from hLr, gotN_app (l := c.L a) (i := c.len a) (Nat.le_refl _)]
      exact hneed
end
end Go.Proofs.Ytbanngdijmglbaa
