/- Conversations: a further event; the clocks say what is before what. -/
import Derived.Test.YtbanngdijmglbaaN3
import Derived.Test.YtbanngdijmglbaaM7
namespace Go.Proofs.Ytbanngdijmglbaa
open Go.RowKit

def conv0 : Conv := ⟨List.replicate 4 [], [], [], List.replicate 16 [], List.replicate 16 0⟩
set_option maxRecDepth 100000 in
theorem conv0_L (r : Nat) : conv0.L r = [] := by
  show (List.replicate 4 []).getD r [] = []
  rw [List.getD_eq_getElem?_getD, List.getElem?_replicate]
  split <;> rfl
set_option maxRecDepth 100000 in
theorem convI_zero : ConvI conv0 where
  l4 := rfl
  tot := rfl
  s16 := rfl
  g16 := rfl
  bl := rfl
  brow k hk := absurd hk (Nat.not_lt_zero k)
  inv := InvF.zero fun r _ => by show (conv0.L r).length = 0; rw [conv0_L]; rfl
  val r hr := by
    rw [conv0_L]
    exact ⟨by omega, by omega, Nat.zero_le _, fun k hk => absurd hk (Nat.not_lt_zero k)⟩
  lab r _ e he := by rw [conv0_L] at he; cases he
  sends p r hp hr := by
    have : conv0.sentOf p r = [] := by
      show (List.replicate 16 []).getD _ [] = []
      rw [List.getD_eq_getElem?_getD, List.getElem?_replicate]
      split <;> rfl
    rw [conv0_L, this]
    exact ⟨rfl, fun k hk => by cases hk⟩
  gots r p hr hp := by
    have : conv0.gotOf r p = 0 := by
      show (List.replicate 16 0).getD _ 0 = 0
      rw [List.getD_eq_getElem?_getD, List.getElem?_replicate]
      split <;> rfl
    rw [conv0_L, this]
    exact ⟨by unfold gotN; rw [List.take_nil]; rfl, Nat.zero_le _⟩
  right r i _ hi := by
    have : conv0.len r = 0 := by show (conv0.L r).length = 0; rw [conv0_L]; rfl
    omega
section
variable {c : Conv}
/-- The row of a further event. -/
def RowP (c : Conv) (r : Nat) (msg : Option Nat) (w : List Bool) : Prop := w.length = c.n + 1 ∧ ∀ j, w.getD j false = true ↔ (j < c.n ∧ (c.rl j = r ∨ msg = some j)) ∨ ∃ k, k < c.n ∧ (c.rl k = r ∨ msg = some k) ∧ c.bf k j
def nextC (P M : List Int) (r : Nat) : List Int := (List.zipWith max P M).set r ((List.zipWith max P M).getD r 0 + 1)
set_option maxRecDepth 100000 in
theorem set16 {α : Type} {l : List α} {z v : α} {r p a b : Nat} (hl : l.length = 16) (hr : r < 4) (hp : p < 4) (_ha : a < 4) (hb : b < 4) : (l.set (4 * r + p) v).getD (4 * a + b) z = if a = r ∧ b = p then v else l.getD (4 * a + b) z := by
  rw [getD_setG (by omega)]
  by_cases e : 4 * r + p = 4 * a + b
  · rw [if_pos e, if_pos (by omega)]
  · rw [if_neg e, if_neg (by omega)]
set_option maxRecDepth 100000 in
theorem ConvI.send (h : ConvI c) (hn : c.n < 900) {r p : Nat} (hr : r < 4) (hp : p < 4) (hne : p ≠ r) :
    ∃ C, sendL (c.L r) r 4 ⟨r, true, p, 0, []⟩ = (0, c.L r ++ [⟨⟨r, true, p, 0, []⟩, C⟩]) ∧ ∀ w, RowP c r none w → ConvI (c.add r ⟨⟨r, true, p, 0, []⟩, C⟩ w (c.sent.set (4 * r + p) (c.sentOf r p ++ [c.n])) c.got) := by
  obtain ⟨P1, P2, P3⟩ := h.past hr
  have hlr := h.len_le hr
  have hrng := P1.rng h.inv
  have hown := P1.own h.inv hr
  have hln := fun a ha => h.len_le (r := a) ha
  have ht := tickF4 (c := lastC (c.L r) 4) P2 hr fun a ha => by
    have := hrng a ha
    have := hln a ha
    omega
  have hl : (c.L r).length = c.len r := rfl
  have hst : standsE (⟨r, true, p, 0, []⟩ : Evt) r 4 := ⟨rfl, by show (p : Int) ≠ r; omega, by show (0 : Int) ≤ p; omega, by show (p : Int) < 4; omega, Int.le_refl _, by show (0 : Int) < 40; decide, by show ((0 : Nat) : Int) ≤ 4; decide⟩
  refine ⟨_, ?_, fun w hw => h.add hn hr hp hne (msg := none) (M := List.replicate 4 0) (fun a _ => ?_) hw.1 hw.2 (C := (lastC (c.L r) 4).set r ((lastC (c.L r) 4).getD r 0 + 1)) ?_ ?_ ?_ (by rw [List.length_set]; exact h.s16) h.g16 ?_ ?_ (fun hs => by cases hs) ?_⟩
  · rw [sendL_ok ⟨h.val r hr, hst, rfl⟩ (by rw [ht, hl]; simp; omega), ht]
  · rw [List.getD_eq_getElem?_getD, List.getElem?_replicate]
    split <;> rfl
  · rw [List.length_set, P2]
  · rw [getD_setG (by omega), if_pos rfl, hown]
  · intro a ha hne
    rw [getD_setG (by omega), if_neg (Ne.symm hne)]
    have := hrng a ha
    rw [show (List.replicate 4 (0 : Int)).getD a 0 = 0 by rw [List.getD_eq_getElem?_getD, List.getElem?_replicate]; split <;> rfl]
    omega
  · intro a b ha hb
    rw [set16 h.s16 hr hp ha hb]
    by_cases e : a = r ∧ b = p
    · rw [if_pos e, if_pos ⟨rfl, e⟩, e.1, e.2]
    · rw [if_neg e, if_neg (fun hc => e hc.2), List.append_nil]
      rfl
  · intro a b ha hb
    rw [if_neg (fun hc => by cases hc.1), Nat.add_zero]
    rfl
  · rw [if_pos rfl]
    exact ht
set_option maxRecDepth 100000 in
theorem ConvI.recv (h : ConvI c) (hn : c.n < 900) {r p : Nat} (hr : r < 4) (hp : p < 4) (hne : p ≠ r) {m : Nat} (hm : (c.sentOf p r)[c.gotOf r p]? = some m) :
    ∃ C, recvL (c.L r) r 4 ⟨r, false, p, 0, []⟩ (c.ck m) = (0, c.L r ++ [⟨⟨r, false, p, 0, []⟩, C⟩]) ∧ ∀ w, RowP c r (some m) w → ConvI (c.add r ⟨⟨r, false, p, 0, []⟩, C⟩ w c.sent (c.got.set (4 * r + p) (c.gotOf r p + 1))) := by
  obtain ⟨P1, P2, P3⟩ := h.past hr
  obtain ⟨s1, s2⟩ := h.sends p r hp hr
  have hgl := (List.getElem?_eq_some_iff.1 hm).1
  obtain ⟨mn, mr⟩ := s2 m (List.mem_of_getElem? hm)
  have hM4 := h.inv.cklen m mn
  have hlr := h.len_le hr
  have hrng := P1.rng h.inv
  have hown := P1.own h.inv hr
  have hln := fun a ha => h.len_le (r := a) ha
  have hMr := fun a ha => h.inv.ckpos m a mn ha
  obtain ⟨z1, z2⟩ := zip4 P2 hM4
  have ht := tickF4 (c := List.zipWith max (lastC (c.L r) 4) (c.ck m)) z1 hr fun a ha => by
    rw [z2 a ha]
    have := hrng a ha
    have := hMr a ha
    have := hln a ha
    omega
  have hrecv : receiveF (lastC (c.L r) 4) (c.ck m) r = (0, nextC (lastC (c.L r) 4) (c.ck m) r) := by
    unfold receiveF
    rw [joinF_ok ⟨okC4 P2 fun a ha => by have := hrng a ha; have := hln a ha; omega, okC4 hM4 fun a ha => by have := hMr a ha; have := hln a ha; omega, by rw [P2, hM4]⟩, if_pos rfl]
    exact ht
  have hl : (c.L r).length = c.len r := rfl
  have hst : standsE (⟨r, false, p, 0, []⟩ : Evt) r 4 := ⟨rfl, by show (p : Int) ≠ r; omega, by show (0 : Int) ≤ p; omega, by show (p : Int) < 4; omega, Int.le_refl _, by show (0 : Int) < 40; decide, by show ((0 : Nat) : Int) ≤ 4; decide⟩
  have hsc : sentC (c.L p) r (gotN (c.L r) (c.len r) p) = c.ck m := by
    rw [← (h.gots r p hr hp).1]
    unfold sentC
    have h1 : ((sendsE (c.L p) r).map Ent.clk)[c.gotOf r p]? = some (c.ck m) := by rw [s1, List.getElem?_map, hm]; rfl
    rw [List.getElem?_map] at h1
    obtain ⟨x, hx, hx2⟩ := Option.map_eq_some_iff.1 h1
    rw [hx]
    exact hx2
  refine ⟨_, ?_, fun w hw => h.add hn hr hp hne (snd := false) (msg := some m) (M := c.ck m) ⟨mn, fun a _ => rfl⟩ hw.1 hw.2 (C := nextC (lastC (c.L r) 4) (c.ck m) r) ?_ ?_ ?_ h.s16 (by rw [List.length_set]; exact h.g16) ?_ ?_ (fun _ => hgl) ?_⟩
  · rw [recvL_ok ⟨h.val r hr, hst, rfl⟩ (by rw [hrecv]) (by omega), hrecv]
  · unfold nextC
    rw [List.length_set, z1]
  · unfold nextC
    rw [getD_setG (by omega), if_pos rfl, z2 r hr, hown]
    have := hMr r hr
    omega
  · intro a ha hne
    unfold nextC
    rw [getD_setG (by omega), if_neg (Ne.symm hne), z2 a ha]
  · intro a b ha hb
    rw [if_neg (fun hc => by cases hc.1), List.append_nil]
    rfl
  · intro a b ha hb
    rw [set16 h.g16 hr hp ha hb]
    by_cases e : a = r ∧ b = p
    · rw [if_pos e, if_pos ⟨rfl, e⟩, e.1, e.2]
    · rw [if_neg e, if_neg (fun hc => e hc.2), Nat.add_zero]
      rfl
  · rw [if_neg (by decide), hsc]
    exact hrecv
end
end Go.Proofs.Ytbanngdijmglbaa
