/- TransportDelivery (printed from U3, U8 and U9body.inc by tools/mku9.py). -/
import Derived.Test.YtcfnmklbkhibgaaU7
import Derived.Test.YtcfnmklbkhibgaaR4
namespace Go.Proofs.Ytcfnmklbkhibgaa
open Go.ChangeShapes Go.WideShapes Go.ChangeAt Go.RowKit Go.Deep

def FB (B c : Nat) (l : Lk) : Prop := ∀ j : Nat, j ≤ 7 → l.fly.countP (fun f => decide (l.now + j < f.1)) ≤ B * (7 - j) + c
set_option maxRecDepth 100000 in
theorem FB.mono {B c c' : Nat} {l : Lk} (h : FB B c l) (hc : c ≤ c') : FB B c' l := fun j hj => Nat.le_trans (h j hj) (by omega)
set_option maxRecDepth 100000 in
theorem insF_count {f : List Fl} {x : Fl} (q : Fl → Bool) : (insF f x).countP q ≤ f.countP q + 1 := by
  unfold insF
  split
  · omega
  · have h := congrArg (List.countP q) (List.takeWhile_append_dropWhile (p := fun g : Fl => decide (g.1 ≤ x.1)) (l := f))
    rw [List.countP_append] at h
    rw [List.countP_append, List.countP_cons]
    split <;> omega
set_option maxRecDepth 100000 in
theorem putAll_count {now : Int} {d : List UInt8} (q : Fl → Bool) : ∀ (ds : List Int) {f : List Fl}, (putAll now d ds f).countP q ≤ f.countP q + ds.length
  | [], f => Nat.le_refl _
  | t :: ds, f => by
    have h1 := putAll_count (now := now) (d := d) q ds (f := insF f (now + t, d))
    have h2 := insF_count (f := f) (x := (now + t, d)) q
    show (putAll now d ds (insF f (now + t, d))).countP q ≤ _
    simp only [List.length_cons]
    omega
set_option maxRecDepth 100000 in
theorem FB.send {B c : Nat} {l : Lk} {p : Pk} (h : FB B c l) (hv : ValidL l) (hs : l.sent < 1099511627776) (hp : ValidP p) (h1 : p.vals = []) (h2 : p.clk = []) : FB B (c + 2) (sendF l p) := fun j hj => by
  obtain ⟨-, -, e3, -, -, e6⟩ := send_ok hv hs hp h1 h2
  rw [e3, e6]
  have := putAll_count (now := l.now) (d := arr (fate l) (encP p).2) (fun f => decide (l.now + j < f.1)) (delays (fate l)) (f := l.fly)
  have h3 := delays_len (fate l)
  have h4 := h j hj
  omega
set_option maxRecDepth 100000 in
theorem FB.tick {B : Nat} {l : Lk} (h : FB B B l) (hv : ValidL l) (hn : l.now < 1099511627776) : FB B 0 (tickL l).1 := fun j hj => by
  rw [tick_ok hv hn]
  dsimp only
  have h1 : (l.fly.dropWhile (fun f => decide (f.1 = l.now + 1))).countP (fun f => decide (l.now + 1 + (j : Int) < f.1)) ≤ l.fly.countP (fun f => decide (l.now + 1 + (j : Int) < f.1)) := (List.dropWhile_sublist _).countP_le
  refine Nat.le_trans h1 ?_
  by_cases hj7 : j = 7
  · have : l.fly.countP (fun f => decide (l.now + 1 + (j : Int) < f.1)) = 0 := by
      rw [List.countP_eq_zero]
      intro f hf
      have := (hv.good.rng f hf).2.1
      simp
      omega
    omega
  · have h2 := h (j + 1) (by omega)
    rw [show l.now + ((j + 1 : Nat) : Int) = l.now + 1 + (j : Int) by omega] at h2
    have : B * (7 - (j + 1)) + B = B * (7 - j) := by
      rw [show 7 - j = (7 - (j + 1)) + 1 by omega, Nat.mul_add, Nat.mul_one]
    omega
set_option maxRecDepth 100000 in
theorem FB.len {B c : Nat} {l : Lk} (h : FB B c l) (hv : ValidL l) : l.fly.length ≤ B * 7 + c := by
  have h0 := h 0 (by omega)
  have : l.fly.countP (fun f => decide (l.now + ((0 : Nat) : Int) < f.1)) = l.fly.length := by
    rw [List.countP_eq_length]
    intro f hf
    have := (hv.good.rng f hf).1
    simp
    omega
  omega
set_option maxRecDepth 100000 in
theorem insF_in {f : List Fl} {x : Fl} (h : f.length < 300) : x ∈ insF f x := by
  unfold insF
  rw [if_neg (by omega)]
  exact List.mem_append.2 (.inr (List.mem_cons_self ..))
set_option maxRecDepth 100000 in
theorem insF_old {f : List Fl} {x y : Fl} (h : y ∈ f) : y ∈ insF f x := by
  unfold insF
  split
  · exact h
  · rw [← List.takeWhile_append_dropWhile (p := fun g : Fl => decide (g.1 ≤ x.1)) (l := f)] at h
    rcases List.mem_append.1 h with h | h
    · exact List.mem_append.2 (.inl h)
    · exact List.mem_append.2 (.inr (List.mem_cons_of_mem _ h))
set_option maxRecDepth 100000 in
theorem putAll_old {now : Int} {d : List UInt8} : ∀ (ds : List Int) {f : List Fl} {y : Fl}, y ∈ f → y ∈ putAll now d ds f
  | [], _, _, h => h
  | _ :: ds, _, _, h => putAll_old ds (insF_old h)
/-- The packet p is in flight and is due at t. -/
def Flies (l : Lk) (t : Int) (p : Pk) : Prop := ∃ y ∈ l.fly, y.1 = t ∧ decP y.2 = (0, p)
set_option maxRecDepth 100000 in
theorem Flies.sub {l l' : Lk} {t : Int} {p : Pk} (h : Flies l t p) (hs : ∀ y ∈ l.fly, y ∈ l'.fly) : Flies l' t p := by
  obtain ⟨y, hy, e⟩ := h
  exact ⟨y, hs y hy, e⟩
section
variable {l : Lk} {p : Pk}
set_option maxRecDepth 100000 in
theorem send_old (hv : ValidL l) (hs : l.sent < 1099511627776) (hp : ValidP p) (h1 : p.vals = []) (h2 : p.clk = []) : ∀ y ∈ l.fly, y ∈ (sendF l p).fly := fun y hy => by
  rw [(send_ok hv hs hp h1 h2).2.2.2.2.2]
  exact putAll_old _ hy
set_option maxRecDepth 100000 in
theorem send_flies (hv : ValidL l) (hs : l.sent < 1099511627776) (hp : ValidP p) (h1 : p.vals = []) (h2 : p.clk = []) (hpat : l.pat = []) (hl : l.fly.length < 300) : Flies (sendF l p) (l.now + 1) p := by
  refine ⟨(l.now + 1, (encP p).2), ?_, rfl, dec_enc hp (nil64 h1)⟩
  rw [(send_ok hv hs hp h1 h2).2.2.2.2.2]
  have e1 : fate l = 0 := if_pos (by rw [hpat]; rfl)
  have e2 : delays 0 = [1] := by decide
  have e3 : arr 0 (encP p).2 = (encP p).2 := if_neg (fun h => by have := h.1; revert this; decide)
  rw [e1, e2, e3]
  exact insF_in hl
set_option maxRecDepth 100000 in
theorem take_due {t : Int} : ∀ {f : List Fl}, f.Pairwise (fun a b => a.1 ≤ b.1) → (∀ x ∈ f, t ≤ x.1) → ∀ {y : Fl}, y ∈ f → y.1 = t → y ∈ f.takeWhile (fun g => decide (g.1 = t))
  | [], _, _, _, h, _ => h
  | x :: f, hs, hr, y, hy, e => by
    obtain ⟨h1, h2⟩ := List.pairwise_cons.1 hs
    have hx : x.1 = t := by
      rcases List.mem_cons.1 hy with rfl | hy
      · exact e
      · have := h1 y hy
        have := hr x (List.mem_cons_self ..)
        omega
    rw [List.takeWhile_cons, if_pos (by simp [hx])]
    rcases List.mem_cons.1 hy with rfl | hy
    · exact List.mem_cons_self ..
    · exact List.mem_cons_of_mem _ (take_due h2 (fun z hz => hr z (List.mem_cons_of_mem _ hz)) hy e)
set_option maxRecDepth 100000 in
theorem tick_brings (hv : ValidL l) (hn : l.now < 1099511627776) (h : Flies l (l.now + 1) p) : ∃ d ∈ (tickL l).2, decP d = (0, p) := by
  obtain ⟨y, hy, e, hd⟩ := h
  refine ⟨y.2, ?_, hd⟩
  rw [tick_ok hv hn]
  exact List.mem_map_of_mem (take_due hv.good.srt (fun x hx => by have := (hv.good.rng x hx).1; omega) hy e)
set_option maxRecDepth 100000 in
theorem tick_num (hv : ValidL l) {B c : Nat} (h : FB B c l) : (tickL l).2.length ≤ B * 7 + c := by
  have := h.len hv
  unfold tickL
  split
  · simp
  · rw [List.length_map]
    exact Nat.le_trans (List.takeWhile_sublist _).length_le this
end
section
variable {a b : Int} {w : Wd}
set_option maxRecDepth 100000 in
theorem arrive_back (_h : TI a b w) {d : List UInt8} (hd : OutOk w.offered d) : (arriveF w d).back = w.back ∧ (decP d).1 ≠ 0 ∨ ∃ s, 1 ≤ s ∧ s ≤ w.offered ∧ decP d = (0, msgS s) ∧ (arriveF w d).back = sendF w.back (ackS s) := by
  unfold arriveF
  by_cases hc : (decP d).1 ≠ 0
  · rw [if_pos hc]
    exact .inl ⟨rfl, hc⟩
  · rw [if_neg hc]
    obtain ⟨s, h1, h2, h3⟩ := hd.resolve_left hc
    exact .inr ⟨s, h1, h2, h3, by rw [h3]; rfl⟩
set_option maxRecDepth 100000 in
theorem arrives_live : ∀ (ds : List (List UInt8)) {w : Wd} {b : Int} {c : Nat}, TI a b w → b + ds.length < 1099511627776 → (∀ d ∈ ds, OutOk w.offered d) → FB 32 c w.back → c + 2 * ds.length ≤ 32 →
    FB 32 (c + 2 * ds.length) (ds.foldl arriveF w).back ∧ (∀ y ∈ w.back.fly, y ∈ (ds.foldl arriveF w).back.fly) ∧ (ds.foldl arriveF w).back.pat = w.back.pat ∧ (ds.foldl arriveF w).back.now = w.back.now ∧
    (w.back.pat = [] → ∀ d ∈ ds, ∀ s, decP d = (0, msgS s) → Flies (ds.foldl arriveF w).back (w.back.now + 1) (ackS s))
  | [], w, b, c, _, _, _, hf, _ => ⟨hf, fun _ h => h, rfl, rfl, fun _ d hd => by cases hd⟩
  | d :: ds, w, b, c, ht, hb, ho, hf, hc => by
    simp only [List.length_cons] at hb hc ⊢
    have ho1 := ho d (List.mem_cons_self ..)
    have ht1 := ht.arrive (by omega) ho1
    have hof := ht.off
    have hsb := ht.sback
    have step : FB 32 (c + 2) (arriveF w d).back ∧ (∀ y ∈ w.back.fly, y ∈ (arriveF w d).back.fly) ∧ (arriveF w d).back.pat = w.back.pat ∧ (arriveF w d).back.now = w.back.now ∧ (w.back.pat = [] → ∀ s, decP d = (0, msgS s) → Flies (arriveF w d).back (w.back.now + 1) (ackS s)) := by
      rcases arrive_back ht ho1 with ⟨e, hne⟩ | ⟨s, s1, s2, hs, e⟩
      · rw [e]
        exact ⟨hf.mono (by omega), fun _ h => h, rfl, rfl, fun _ s hs => absurd (by rw [hs]) hne⟩
      · rw [e]
        have hv : ValidP (ackS s) := ackS_valid (by omega)
        obtain ⟨-, -, q1, q2, -, -⟩ := send_ok (p := ackS s) ht.vback (by omega) hv rfl rfl
        refine ⟨hf.send ht.vback (by omega) hv rfl rfl, send_old ht.vback (by omega) hv rfl rfl, q2, q1, fun hp s' hs' => ?_⟩
        rw [hs] at hs'
        have he : s = s' := congrArg (fun r : Int × Pk => r.2.seq) hs'
        subst he
        have := hf.len ht.vback
        exact send_flies ht.vback (by omega) hv rfl rfl hp (by omega)
    obtain ⟨s1, s2, s3, s4, s5⟩ := step
    obtain ⟨r1, r2, r3, r4, r5⟩ := arrives_live ds ht1 (by omega) (fun x hx => by rw [arrive_offered]; exact ho x (List.mem_cons_of_mem _ hx)) s1 (by omega)
    rw [List.foldl_cons]
    refine ⟨by rw [show c + 2 * (ds.length + 1) = c + 2 + 2 * ds.length by omega]; exact r1, fun y hy => r2 y (s2 y hy), r3.trans s3, r4.trans s4, fun hp x hx s hs => ?_⟩
    rcases List.mem_cons.1 hx with rfl | hx
    · exact (s5 hp s hs).sub r2
    · have := r5 (s3.trans hp) x hx s hs
      rw [s4] at this
      exact this
set_option maxRecDepth 100000 in
theorem returns_done : ∀ (ds : List (List UInt8)) {w : Wd} {d : List UInt8}, d ∈ ds → decP d = (0, ackS w.snd.pk.seq) → (ds.foldl returnedF w).snd.busy = false
  | [], _, _, h, _ => by cases h
  | x :: ds, w, d, h, e => by
    rw [List.foldl_cons]
    rcases returned_same w x with ⟨h0, -⟩
    by_cases hb : (returnedF w x).snd.busy = false
    · rw [returns_idle ds hb]
      exact hb
    · rcases h0 with h0 | h0
      · rcases List.mem_cons.1 h with rfl | h
        · refine absurd ?_ hb
          by_cases hbw : w.snd.busy = true
          · unfold returnedF
            rw [e, if_neg (by simp), if_pos ⟨hbw, rfl⟩]
          · rw [h0]
            simpa using hbw
        · exact returns_done ds h (by rw [h0]; exact e)
      · exact absurd h0 hb
set_option maxRecDepth 100000 in
theorem tick_pat {l : Lk} (hv : ValidL l) (hn : l.now < 1099511627776) : (tickL l).1.pat = l.pat ∧ (tickL l).1.now = l.now + 1 := by
  rw [tick_ok hv hn]
  exact ⟨rfl, rfl⟩
set_option maxRecDepth 100000 in
theorem mid_live (h : TI a b w) (hn : w.now < 1000) (hb : b + 300 < 1099511627776) (f1 : FB 2 2 w.out) (f2 : FB 32 32 w.back) :
    FB 2 0 (midF w).out ∧ FB 32 32 (midF w).back ∧ (midF w).out.pat = w.out.pat ∧ (midF w).back.pat = w.back.pat ∧ (w.back.pat = [] → ∀ s, Flies w.out (w.now + 1) (msgS s) → Flies (midF w).back (w.now + 1 + 1) (ackS s)) ∧ (Flies w.back (w.now + 1) (ackS w.snd.pk.seq) → (midF w).snd.busy = false) := by
  obtain ⟨hc, ho, -⟩ := h.clock hn
  have hnn := h.now
  have n1 : w.out.now < 1099511627776 := by rw [h.nout]; omega
  have n2 : w.back.now < 1099511627776 := by rw [h.nback]; omega
  have hnum := tick_num h.vout f1
  obtain ⟨p1, p2⟩ := tick_pat h.vout n1
  obtain ⟨p3, p4⟩ := tick_pat h.vback n2
  have fb : FB 32 0 (clockF w).back := f2.tick h.vback n2
  obtain ⟨r1, r2, r3, r4, r5⟩ := arrives_live (tickL w.out).2 (w := clockF w) (c := 0) hc (by omega) ho fb (by omega)
  obtain ⟨-, q1, q2, -⟩ := returns_same (tickL w.back).2 ((tickL w.out).2.foldl arriveF (clockF w))
  obtain ⟨k1, -⟩ := arrives_same (tickL w.out).2 (clockF w)
  obtain ⟨-, m2, -⟩ := mid_same w
  have mb : (midF w).back = ((tickL w.out).2.foldl arriveF (clockF w)).back := q2
  have cb : (clockF w).back.now = w.now + 1 := p4.trans (by rw [h.nback])
  refine ⟨by rw [m2]; exact f1.tick h.vout n1, by rw [mb]; exact r1.mono (by omega), by rw [m2]; exact p1, by rw [mb]; exact r3.trans p3, fun hp s hs => ?_, fun hs => ?_⟩
  · rw [← h.nout] at hs
    obtain ⟨d, hd, e⟩ := tick_brings h.vout n1 hs
    have := r5 (p3.trans hp) d hd s e
    rw [cb] at this
    rw [mb]
    exact this
  · rw [← h.nback] at hs
    obtain ⟨d, hd, e⟩ := tick_brings h.vback n2 hs
    exact returns_done _ hd (by rw [k1]; exact e)
def LV (total m : Int) (w : Wd) : Prop := w.offered ≤ total ∧ ((w.snd.busy = false ∧ w.offered = total) ∨ (w.snd.busy = true ∧ ((w.now < w.snd.due ∧ w.snd.due - w.now + 2 + 2 * (total - w.offered) ≤ m) ∨ (Flies w.out (w.now + 1) (msgS w.offered) ∧ 2 + 2 * (total - w.offered) ≤ m) ∨ (Flies w.back (w.now + 1) (ackS w.offered) ∧ 1 + 2 * (total - w.offered) ≤ m))))
set_option maxRecDepth 100000 in
theorem tick_live (h : TI a b w) (hn : w.now < 1000) (ha : a + 1 < 1099511627776) (hb : b + 300 < 1099511627776) {total : Int} (_ht : total ≤ 100) (f1 : FB 2 2 w.out) (f2 : FB 32 32 w.back) (ho : w.offered ≤ total) :
    FB 2 2 (tickF total w).out ∧ FB 32 32 (tickF total w).back ∧ (tickF total w).out.pat = w.out.pat ∧ (tickF total w).back.pat = w.back.pat ∧ LV total (66 + 2 * total) (tickF total w) ∧ (w.out.pat = [] → w.back.pat = [] → ∀ m, LV total m w → LV total (m - 1) (tickF total w)) := by
  obtain ⟨g1, g2, g3, g4, g5, g6⟩ := mid_live h hn hb f1 f2
  obtain ⟨hm, -⟩ := h.mid hn hb
  obtain ⟨m1, -, m3, m4⟩ := mid_same w
  have hmo := hm.off
  have hms := hm.sout
  have hmn := hm.nout
  by_cases hc : (midF w).snd.busy = true ∧ (midF w).snd.due ≤ (midF w).now
  · have hF : tickF total w = { midF w with snd := { (midF w).snd with tries := (midF w).snd.tries + 1, due := (midF w).now + min (ivl ((midF w).snd.tries + 1)) 64 }, out := sendF (midF w).out (midF w).snd.pk } := by
      unfold tickF
      rw [show resF (midF w) = _ from if_pos hc]
      exact if_neg (fun hx => by have h2 := hx.2; dsimp only at h2; rw [hc.1] at h2; cases h2)
    obtain ⟨e1, e2, e3, e4, -⟩ := hm.busy hc.1
    have hvp : ValidP (msgS (midF w).offered) := msgS_valid (by omega)
    obtain ⟨-, -, -, q4, -, -⟩ := send_ok hm.vout (by omega) hvp rfl rfl
    have hiv : 16 ≤ ivl ((midF w).snd.tries + 1) := by unfold ivl; (repeat' split) <;> omega
    have hws : (midF w).snd = w.snd := m1.resolve_right (fun hx => by rw [hx] at hc; cases hc.1)
    have hnb : ¬ Flies w.back (w.now + 1) (ackS w.offered) := fun hx => by
      have := g6 (by rw [← hws, e1, m4]; exact hx)
      rw [this] at hc
      cases hc.1
    have hbz := hc.1
    rw [hF, e1]
    dsimp only
    refine ⟨g1.send hm.vout (by omega) hvp rfl rfl, g2, q4.trans g3, g4, ⟨by dsimp only; omega, .inr ⟨hc.1, .inl ⟨by dsimp only; omega, by dsimp only; omega⟩⟩⟩, fun hp1 hp2 m hl => ⟨by dsimp only; omega, .inr ⟨hc.1, ?_⟩⟩⟩
    obtain ⟨-, hl⟩ := hl
    have hfl := g1.len hm.vout
    rcases hl with ⟨hl, -⟩ | ⟨-, ⟨l1, l2⟩ | ⟨l1, l2⟩ | ⟨l1, l2⟩⟩
    · rw [hws, hl] at hbz
      cases hbz
    · refine .inr (.inl ⟨?_, by dsimp only; omega⟩)
      have := send_flies hm.vout (by omega) hvp rfl rfl (g3.trans hp1) (by omega)
      rw [hmn] at this
      exact this
    · refine .inr (.inr ⟨?_, by dsimp only; omega⟩)
      dsimp only
      rw [m3, m4]
      exact g5 hp2 _ l1
    · exact absurd l1 hnb
  · have hR : resF (midF w) = midF w := if_neg hc
    by_cases hd : (midF w).offered < total ∧ (midF w).snd.busy = false
    · have hF : tickF total w = { midF w with snd := ⟨(midF w).snd.next + 1, true, msgS ((midF w).offered + 1), (midF w).now + 8, 1⟩, out := sendF (midF w).out (msgS ((midF w).offered + 1)), offered := (midF w).offered + 1 } := by
        unfold tickF
        rw [hR]
        exact if_pos hd
      have hvp : ValidP (msgS ((midF w).offered + 1)) := msgS_valid (by omega)
      obtain ⟨-, -, -, q4, -, -⟩ := send_ok hm.vout (by omega) hvp rfl rfl
      rw [hF]
      dsimp only
      have hfl := g1.len hm.vout
      refine ⟨g1.send hm.vout (by omega) hvp rfl rfl, g2, q4.trans g3, g4, ⟨by dsimp only; omega, .inr ⟨rfl, .inl ⟨by dsimp only; omega, by dsimp only; omega⟩⟩⟩, fun hp1 hp2 m hl => ⟨by dsimp only; omega, .inr ⟨rfl, .inr (.inl ⟨?_, ?_⟩)⟩⟩⟩
      · have := send_flies hm.vout (by omega) hvp rfl rfl (g3.trans hp1) (by omega)
        rw [hmn] at this
        exact this
      · dsimp only
        obtain ⟨-, hl⟩ := hl
        rcases hl with ⟨-, hl⟩ | ⟨-, ⟨l1, l2⟩ | ⟨l1, l2⟩ | ⟨l1, l2⟩⟩ <;> omega
    · have hF : tickF total w = midF w := by
        unfold tickF
        rw [hR]
        exact if_neg hd
      rw [hF]
      refine ⟨g1.mono (by omega), g2, g3, g4, ⟨by omega, ?_⟩, fun hp1 hp2 m hl => ⟨by omega, ?_⟩⟩
      · cases hbz : (midF w).snd.busy with
        | false => exact .inl ⟨rfl, by
            have : ¬ (midF w).offered < total := fun hx => hd ⟨hx, hbz⟩
            omega⟩
        | true =>
          obtain ⟨e1, e2, e3, e4, -⟩ := hm.busy hbz
          have : ¬ (midF w).snd.due ≤ (midF w).now := fun hx => hc ⟨hbz, hx⟩
          exact .inr ⟨rfl, .inl ⟨by omega, by omega⟩⟩
      · cases hbz : (midF w).snd.busy with
        | false => exact .inl ⟨rfl, by
            have : ¬ (midF w).offered < total := fun hx => hd ⟨hx, hbz⟩
            omega⟩
        | true =>
          obtain ⟨e1, e2, e3, e4, -⟩ := hm.busy hbz
          have hdu : ¬ (midF w).snd.due ≤ (midF w).now := fun hx => hc ⟨hbz, hx⟩
          have hws : (midF w).snd = w.snd := m1.resolve_right (fun hx => by rw [hx] at hbz; cases hbz)
          obtain ⟨-, hl⟩ := hl
          refine .inr ⟨rfl, ?_⟩
          rcases hl with ⟨hl, -⟩ | ⟨-, ⟨l1, l2⟩ | ⟨l1, l2⟩ | ⟨l1, l2⟩⟩
          · rw [hws, hl] at hbz
            cases hbz
          · exact .inl ⟨by omega, by rw [hws]; omega⟩
          · refine .inr (.inr ⟨?_, by omega⟩)
            rw [m3, m4]
            exact g5 hp2 _ l1
          · have := g6 (by rw [← hws, e1, m4]; exact l1)
            rw [this] at hbz
            cases hbz
set_option maxRecDepth 100000 in
theorem LV.done {total m : Int} (h : LV total m w) (ht : TI a b w) (hm : m ≤ 0) : w.snd.busy = false ∧ w.acked = total ∧ (w.dlv.length : Int) = total := by
  obtain ⟨h0, h1⟩ := h
  rcases h1 with ⟨h1, h2⟩ | ⟨-, ⟨l1, l2⟩ | ⟨l1, l2⟩ | ⟨l1, l2⟩⟩
  · obtain ⟨-, -, -, e4, e5⟩ := ht.idle h1
    have := ht.dlvl
    exact ⟨h1, by omega, by omega⟩
  · omega
  · omega
  · omega
end
/-- The world at the start. -/
def wd0 (p q : List UInt8) : Wd := ⟨sd1, 0, ⟨p, 0, 0, []⟩, ⟨q, 0, 0, []⟩, 0, 0, 0, []⟩
def wx0 : WX := ⟨none, 0, none, 0, lh0, lh0, none, 0⟩
set_option maxRecDepth 100000 in
theorem ti0 {p q : List UInt8} (hp : p.length ≤ 200) (hq : q.length ≤ 200) : TI 0 0 (wd0 p q) where
  now := by simp [wd0]
  off := by simp [wd0]
  next := rfl
  busy := fun h => by cases h
  idle := fun _ => ⟨rfl, rfl, rfl, rfl, rfl⟩
  dlvl := rfl
  dlv := fun i h => by simp [wd0] at h
  vout := ⟨hp, by simp [wd0], by simp [wd0], by simp [wd0], fun k h => by simp [wd0] at h⟩
  nout := rfl
  sout := Int.le_refl _
  fout := fun y hy => by simp [wd0] at hy
  vback := ⟨hq, by simp [wd0], by simp [wd0], by simp [wd0], fun k h => by simp [wd0] at h⟩
  nback := rfl
  sback := Int.le_refl _
  fback := fun y hy => by simp [wd0] at hy
set_option maxRecDepth 100000 in
theorem wm0 {gw : Nat} {H : Heap} (hB : Blk H gw (wdC (wd0 [] []) wx0) 67) : WM gw (gw + 1) (wd0 [] []) wx0 H :=
  ⟨hB, rfl, rfl, ⟨RdM.none _ _ _, RdM.none _ _ _, (fun x hx => by cases hx), Nat.le_refl _⟩, ⟨RdM.none _ _ _, RdM.none _ _ _, (fun x hx => by cases hx), Nat.le_refl _⟩, ⟨by decide, by decide, fun x hx => by cases hx⟩, ⟨by decide, by decide, fun x hx => by cases hx⟩, Own.nil _ _, Nat.lt_succ_self _, hB.lt, rfl, rfl⟩
set_option maxRecDepth 100000 in
theorem TI.nilp {a b : Int} {w : Wd} (h : TI a b w) : TI a b { w with out := { w.out with pat := [] }, back := { w.back with pat := [] } } where
  now := h.now
  off := h.off
  next := h.next
  busy := h.busy
  idle := h.idle
  dlvl := h.dlvl
  dlv := h.dlv
  vout := ⟨Nat.zero_le _, h.vout.2⟩
  nout := h.nout
  sout := h.sout
  fout := h.fout
  vback := ⟨Nat.zero_le _, h.vback.2⟩
  nback := h.nback
  sback := h.sback
  fback := h.fback
set_option maxRecDepth 100000 in
theorem LkM.nilp {M : List Nat} {H : Heap} {l : LH} (h : LkM M H l) : LkM M H { l with PA := none, pc := 0, pat := [] } := ⟨RdM.none _ _ _, h.fly, h.data, h.fcap⟩
set_option maxRecDepth 100000 in
theorem LkSm.nilp {l : LH} (h : LkSm l) : LkSm { l with PA := none, pc := 0, pat := [] } := ⟨Nat.zero_le _, h.fly, h.data⟩
set_option maxRecDepth 100000 in
theorem fb0 {B c : Nat} {p : List UInt8} : FB B c ⟨p, 0, 0, []⟩ := fun j hj => by simp
set_option maxRecDepth 100000 in
theorem delivery_walk (A B : Option Addr) (ca cb : Nat) (p q : List UInt8) (a c : Int) (H : Heap) (hA : Rd eByte H A p) (hB : Rd eByte H B q) (ha : 0 ≤ a ∧ a ≤ 255) (hc : 0 ≤ c ∧ c ≤ 255) :
    CallsH Try.prog 6 [.slice A p.length ca, .slice B q.length cb, .agg #[.int .u8 a, .int .u8 c]] H fun v H' => v = .bool true ∧ Ext H H' := by
  refine callsH_of Try.func6 rfl Try.ntmps6 (Nat.le_of_ble_eq_true rfl) ?_
  refine wpSeq fun F1 hF1 => ?_
  refine wpRegion ?_
  refine seqN rfl rfl (nBoxA rfl rfl) (fun g5 H5 hx5 hB5 hg5 hl5 => ?_)
  refine seqQ rfl rfl (yAssign (v := .bool _) rfl rfl) ?_
  refine seqNil ?_
  refine hF1 _ _ ?_; clear hF1
  refine wpSeq fun F2 hF2 => ?_
  refine wpSeq fun F3 hF3 => ?_
  refine wpRegion ?_
  -- e slot 11: call F7<farandole/farandolelaw50.awake> 
  refine seqE rfl rfl (stepCall rfl Try.call7 rfl ?_)
  refine (tpAwake_c _).mono ?_
  rintro v H1 ⟨rfl, x1⟩
  replace hB5 := hB5.ext x1
  have hE := hx5.trans x1
  clear x1 hx5
  refine seqQ rfl rfl (yNot rfl rfl) ?_
  refine seqNil ?_
  refine hF3 _ _ ?_; clear hF3
  -- if t12
  refine wpF rfl ?_
  refine wpSkip ?_
  refine hF2 _ _ ?_; clear hF2
  refine wpSeq fun F4 hF4 => ?_
  refine wpSeq fun F5 hF5 => ?_
  refine wpRegion ?_
  refine seqQ rfl rfl (yMove (v := .slice _ _ _) rfl rfl) ?_
  refine seqQ rfl rfl (yLen rfl Try.underlying58 rfl) ?_
  refine seqQ rfl rfl (yGtr rfl rfl rfl) ?_
  -- guard t16
  refine seqMeet 8 [16, 17, 18, 19, 20] 20 (decide ((p.length : Int) > 20 ∨ (q.length : Int) > 20)) (fun hm6 => ?_) (fun J6 => ?_)
  · skip
    first | refine seqG rfl rfl rfl rfl (fun h16 => ?_) (fun h16 => ?_) | refine seqGB rfl rfl rfl rfl (fun h16 => ?_) (fun h16 => ?_)
    · skip
      refine seqU rfl rfl ?_
      refine seqU rfl rfl ?_
      refine seqU rfl rfl ?_
      refine seqQ rfl rfl (yPickT (v := .bool _) rfl rfl rfl) ?_
      exact hm6 _ (by repeat (first | (with_reducible exact Agree.refl _ _) | refine Agree.upd ?_ rfl | refine Agree.over ?_ rfl)) (by show Value.bool _ = Value.bool _; congr 1; grind)
    · skip
      refine seqQ rfl rfl (yMove (v := .slice _ _ _) rfl rfl) ?_
      refine seqQ rfl rfl (yLen rfl Try.underlying58 rfl) ?_
      refine seqQ rfl rfl (yGtr rfl rfl rfl) ?_
      refine seqQ rfl rfl (yPickF (v := .bool _) rfl rfl rfl) ?_
      exact hm6 _ (by repeat (first | (with_reducible exact Agree.refl _ _) | refine Agree.upd ?_ rfl | refine Agree.over ?_ rfl)) (by show Value.bool _ = Value.bool _; congr 1; grind)
  refine seqNil ?_
  refine hF5 _ _ ?_; clear hF5
  -- if t20
  refine wpIf rfl (fun hbig => ?_) (fun hbig => ?_)
  · skip
    refine wpSeq fun F7 hF7 => ?_
    refine wpRegion ?_
    refine seqQ rfl rfl (yAssign (v := .bool _) rfl rfl) ?_
    refine seqNil ?_
    refine hF7 _ _ ?_; clear hF7
    -- ret
    refine wpRet (fin1 (v := .bool _) rfl rfl ?_)
    exact ⟨rfl, hE⟩
  · skip
    have hp20 : p.length ≤ 20 := by omega
    have hq20 : q.length ≤ 20 := by omega
    refine wpSkip ?_
    refine hF4 _ _ ?_; clear hF4
    refine wpSeq fun F8 hF8 => ?_
    refine wpRegion ?_
    -- e slot 21: call F9<farandole/transport.Start> 
    refine seqE rfl rfl (stepCall rfl Try.call9 rfl ?_)
    refine (start_c H1).mono ?_
    rintro v Ha ⟨rfl, xa⟩
    refine seqQ rfl rfl (yBuild (pl := [(0, 13), (13, 1), (14, 4), (18, 4), (22, 1), (23, 1), (24, 1), (25, 1), (26, 1)]) (vs := [(0, .agg _)]) rfl Try.underlying67 Try.zeroValue67 rfl (by unfold Places; kernel_rfl) rfl rfl) ?_
    refine seqN rfl rfl (nBoxA rfl rfl) (fun g23 H23 hx23 hB23 hg23 hl23 => ?_)
    refine seqQ rfl rfl (yAssign (v := .pointer _) rfl rfl) ?_
    refine seqNil ?_
    refine hF8 _ _ ?_; clear hF8
    refine wpSeq fun F9 hF9 => ?_
    refine wpRegion ?_
    refine seqQ rfl rfl (yMove (v := .pointer _) rfl rfl) ?_
    refine seqQ rfl rfl (yMove (v := .slice _ _ _) rfl rfl) ?_
    -- e slot 27: call F24<farandole/link.New> t26
    have hw0 : WM g23 (g23 + 1) (wd0 [] []) wx0 H23 := wm0 hB23
    have h5 := (hB5.ext xa).ext hx23
    have hne5 : g5 ≠ g23 := by have := hB5.lt; have := xa.size; omega
    have hgH : H.size ≤ g23 := by have := hE.size; have := xa.size; omega
    replace hE := (hE.trans xa).trans hx23
    clear hB5 hB23 hx23 xa
    have en1 : newL p = (0, ⟨p, 0, 0, []⟩) := if_neg (by omega)
    have en2 : newL q = (0, ⟨q, 0, 0, []⟩) := if_neg (by omega)
    refine seqE rfl rfl (stepCall rfl Try.call24 rfl ?_)
    refine (new_c A ca p H23 (hA.ext hE) (by omega)).mono ?_
    rintro v Hb ⟨L1, rfl, eL1, nL1, xb⟩
    rw [en1] at eL1 ⊢
    dsimp only at eL1 ⊢
    have sm1 : LkSm L1 := sm_of eL1 (by show p.length ≤ _; omega) (by simp) (by simp)
    have hwb := hw0.ext xb
    have ml1 : LkM (wT g23 (wd0 [] []) wx0) Hb L1 := nL1.m fun y hy => (hw0.lt y hy).2
    have h5b := h5.ext xb
    replace hE := hE.trans xb
    clear nL1 xb
    refine seqQ rfl rfl (yMove (v := .tuple _) rfl rfl) ?_
    refine seqQ rfl rfl (yExtract (v := .agg _) rfl rfl rfl) ?_
    refine seqQ rfl rfl (yExtract (v := .int _ _) rfl rfl rfl) ?_
    refine seqQ rfl rfl (yNilCheck rfl rfl) ?_
    refine seqQ rfl rfl (yFieldAddr rfl Try.underlying67 rfl Try.sizeOf65 rfl rfl) ?_
    -- e slot None: store T65 t31 t28
    refine seqE0 rfl rfl (stepStoreSeg rfl (by kernel_rfl) rfl rfl rfl hwb.blk (Nat.le_of_ble_eq_true rfl) ?_)
    intro H6 hB6 hK6
    obtain ⟨hm6, tt6⟩ := hwb.outL (L := L1) (l := ⟨p, 0, 0, []⟩) ml1 sm1 eL1 hK6 hB6
    have h56 := h5b.keep hK6 (by simpa using hne5)
    replace hE := hE.mine hK6 (by simpa using hgH)
    clear hK6 hB6 tt6 ml1 hwb h5b hw0 h5
    refine seqNil ?_
    refine hF9 _ _ ?_; clear hF9
    refine wpSeq fun F10 hF10 => ?_
    refine wpRegion ?_
    refine seqQ rfl rfl (yMove (v := .pointer _) rfl rfl) ?_
    refine seqQ rfl rfl (yMove (v := .slice _ _ _) rfl rfl) ?_
    -- e slot 35: call F24<farandole/link.New> t34
    refine seqE rfl rfl (stepCall rfl Try.call24 rfl ?_)
    refine (new_c B cb q H6 (hB.ext hE) (by omega)).mono ?_
    rintro v Hd ⟨L2, rfl, eL2, nL2, xd⟩
    rw [en2] at eL2 ⊢
    dsimp only at eL2 ⊢
    have sm2 : LkSm L2 := sm_of eL2 (by show q.length ≤ _; omega) (by simp) (by simp)
    have hwd := hm6.ext xd
    have ml2 := nL2.m fun y hy => (hm6.lt y hy).2
    have h5d := h56.ext xd
    replace hE := hE.trans xd
    clear nL2 xd
    refine seqQ rfl rfl (yMove (v := .tuple _) rfl rfl) ?_
    refine seqQ rfl rfl (yExtract (v := .agg _) rfl rfl rfl) ?_
    refine seqQ rfl rfl (yExtract (v := .int _ _) rfl rfl rfl) ?_
    refine seqQ rfl rfl (yNilCheck rfl rfl) ?_
    refine seqQ rfl rfl (yFieldAddr rfl Try.underlying67 rfl Try.sizeOf65 rfl rfl) ?_
    -- e slot None: store T65 t39 t36
    refine seqE0 rfl rfl (stepStoreSeg rfl (by kernel_rfl) rfl rfl rfl hwd.blk (Nat.le_of_ble_eq_true rfl) ?_)
    intro H7 hB7 hK7
    obtain ⟨hm7, tt7⟩ := hwd.back (L := L2) (l := ⟨q, 0, 0, []⟩) ml2 sm2 eL2 hK7 hB7
    have h5' := h5d.keep hK7 (by simpa using hne5)
    have hE7 := hE.mine hK7 (by simpa using hgH)
    have hti : TI 0 0 (wd0 p q) := ti0 (by omega) (by omega)
    obtain ⟨x7, hm7⟩ : ∃ x', WM g23 (g23 + 1) (wd0 p q) x' H7 ∧ wT g23 (wd0 p q) x' = [g23] := ⟨_, hm7, rfl⟩
    obtain ⟨hm7, hw7⟩ := hm7
    clear tt7 hK7 hwd hm6 h56 h5d hE ml2 hB7
    refine seqNil ?_
    refine hF10 _ _ ?_; clear hF10
    refine wpSeq fun F11 hF11 => ?_
    refine wpRegion ?_
    refine seqQ rfl rfl (yIdxA1 rfl Try.underlying59 Try.sizeOf5 rfl rfl (show (0 : Int) = ((0 : Nat) : Int) by rfl) (by decide)) ?_
    refine seqQ rfl rfl (yLoad rfl Try.underlying5 rfl rfl (h5'.cell (j := 0) rfl)) ?_
    refine seqQ rfl rfl (yConv rfl Try.underlying5 Try.underlying3 rfl (show IntKind.i64.wrap a = a by rw [IntKind.wrap_i64]; omega)) ?_
    refine seqQ rfl rfl (yRem rfl rfl rfl (by omega)) ?_
    refine seqQ rfl rfl (yAssign (v := .int _ _) rfl rfl) ?_
    refine seqNil ?_
    refine hF11 _ _ ?_; clear hF11
    refine wpSeq fun F12 hF12 => ?_
    refine wpSeq fun F13 hF13 => ?_
    refine wpRegion ?_
    refine seqQ rfl rfl (yAssign (v := .int _ _) rfl rfl) ?_
    refine seqNil ?_
    refine hF13 _ _ ?_; clear hF13
    -- loop
    have htot : 0 ≤ a % 11 ∧ a % 11 ≤ 10 := by omega
    generalize a % 11 = total at htot
    have f10 : FB 2 2 (wd0 p q).out := fb0
    have f20 : FB 32 32 (wd0 p q).back := fb0
    refine wpBlock ?_
    refine wpLoopS [9, 44, 45, 46, 47, 48, 49, 50, 51, 52, 53, 54] (fun i : Nat => [(9, .int .i64 i)]) (fun i H' => i ≤ 100 ∧ ∃ w x, WM g23 (g23 + 1) w x H' ∧ TI (2 * i) (300 * i) w ∧ w.now = i ∧ Tr [g23] H7 (wT g23 w x) H' ∧ FB 2 2 w.out ∧ FB 32 32 w.back ∧ w.offered ≤ total) (fun i => 100 - i) 0 ⟨rfl, trivial⟩ ⟨Nat.zero_le _, wd0 p q, x7, hm7, hti, rfl, by rw [hw7]; exact Tr.of_ext (Ext.refl _) _, f10, f20, htot.1⟩ ?_
    rintro i J Hk ⟨hk, w, x, hm, ht, hn, tt, f1, f2, ho⟩
    have h5 := h5'.keep tt.1 (by simpa using hne5)
    refine wpSeq fun F14 hF14 => ?_
    refine wpSeq fun F15 hF15 => ?_
    refine wpRegion ?_
    refine seqQ rfl rfl (yMove (v := .int _ _) rfl rfl) ?_
    refine seqQ rfl rfl (yIdxA1 rfl Try.underlying59 Try.sizeOf5 rfl rfl (show (1 : Int) = ((1 : Nat) : Int) by rfl) (by decide)) ?_
    refine seqQ rfl rfl (yLoad rfl Try.underlying5 rfl rfl (h5.cell (j := 1) rfl)) ?_
    refine seqQ rfl rfl (yConv rfl Try.underlying5 Try.underlying3 rfl (show IntKind.i64.wrap c = c by rw [IntKind.wrap_i64]; omega)) ?_
    refine seqQ rfl rfl (yRem rfl rfl rfl (by omega)) ?_
    refine seqQ rfl rfl (yLss rfl rfl rfl) ?_
    refine seqNil ?_
    refine hF15 _ _ ?_; clear hF15
    -- if t49
    refine wpIf rfl (fun hlt => ?_) (fun hlt => ?_)
    · skip
      have hi : i < 100 := by omega
      refine wpSkip ?_
      refine hF14 _ _ ?_; clear hF14
      refine wpSeq fun F16 hF16 => ?_
      refine wpBlock ?_
      refine wpRegion ?_
      refine seqQ rfl rfl (yMove (v := .pointer _) rfl rfl) ?_
      refine seqQ rfl rfl (yMove (v := .int _ _) rfl rfl) ?_
      -- e slot 54: call F25<(*farandole/farandolelaw50.world).tick> t52 t53
      refine seqE rfl rfl (stepCall rfl Try.call25 rfl ?_)
      refine (wtick_c g23 (g23 + 1) w x (2 * i) (300 * i) total Hk hm ht (by omega) (by omega) (by omega) (by omega)).mono ?_
      rintro v Hl ⟨x2, hm2, tt2⟩
      have ht2 := ht.tick (total := total) (by omega) (by omega) (by omega) (by omega)
      obtain ⟨f1', f2', -, -, hlv, -⟩ := tick_live ht (by omega) (by omega) (by omega) (show total ≤ 100 by omega) f1 f2 ho
      refine seqNil ?_
      refine hF16 _ _ ?_; clear hF16
      refine wpRegion ?_
      refine seqQ rfl rfl (yMove (v := .int _ _) rfl rfl) ?_
      refine seqQ rfl rfl (yAdd rfl rfl rfl (by unfold In64; omega)) ?_
      refine seqQ rfl rfl (yAssign (v := .int _ _) rfl rfl) ?_
      refine seqNil ?_
      -- end loop
      exact loopEnd (i + 1) (by repeat (first | (with_reducible exact Agree.refl _ _) | refine Agree.upd ?_ rfl | refine Agree.over ?_ rfl)) (by omega) ⟨rfl, trivial⟩ ⟨hi, _, x2, hm2, ht2.mono (by omega) (by omega), by rw [tick_now]; omega, tt.trans tt2, f1', f2', hlv.1⟩
    · skip
      clear hm7 hti f10 f20 h5
      refine wpExit ?_
      refine hF12 _ _ ?_; clear hF12
      refine wpSeq fun F17 hF17 => ?_
      refine wpRegion ?_
      refine seqQ rfl rfl (yMove (v := .pointer _) rfl rfl) ?_
      refine seqQ rfl rfl (yMove (v := .pointer _) rfl rfl) ?_
      refine seqQ rfl rfl (yNilCheck rfl rfl) ?_
      refine seqQ rfl rfl (yFieldAddr rfl Try.underlying67 rfl Try.sizeOf65 rfl rfl) ?_
      refine seqQ rfl rfl (yFieldAddr rfl Try.underlying65 rfl Try.sizeOf58 rfl rfl) ?_
      -- e slot None: store T58 t59 [nilslice:0:0]
      refine seqE0 rfl rfl (stepStore (j := 14) rfl Try.sizeOf58 rfl rfl rfl rfl hm.blk (Nat.le_of_ble_eq_true rfl) ?_)
      intro Hl hBl hKl
      obtain ⟨hml, ttl⟩ := hm.outL (L := { x.lo with PA := none, pc := 0, pat := [] }) (l := { w.out with pat := [] }) hm.mo.nilp hm.so.nilp (by rw [← hm.lout]; rfl) hKl hBl
      refine seqQ rfl rfl (yNilCheck rfl rfl) ?_
      refine seqQ rfl rfl (yFieldAddr rfl Try.underlying67 rfl Try.sizeOf65 rfl rfl) ?_
      refine seqQ rfl rfl (yFieldAddr rfl Try.underlying65 rfl Try.sizeOf58 rfl rfl) ?_
      -- e slot None: store T58 t62 [nilslice:0:0]
      refine seqE0 rfl rfl (stepStore (j := 18) rfl Try.sizeOf58 rfl rfl rfl rfl hml.blk (Nat.le_of_ble_eq_true rfl) ?_)
      intro Hn hBn hKn
      obtain ⟨hmn, ttn⟩ := hml.back (L := { x.lb with PA := none, pc := 0, pat := [] }) (l := { w.back with pat := [] }) hml.mb.nilp hml.sb.nilp (by rw [← hm.lback]; rfl) hKn hBn
      have ht0 := ht.nilp
      have tt0 := (tt.trans ttl).trans ttn
      obtain ⟨w0, x0, hm0, ht0, hn0, tt0, f10, f20, ho0, e1, e2⟩ : ∃ w0 x0, WM g23 (g23 + 1) w0 x0 Hn ∧ TI (2 * i) (300 * i) w0 ∧ w0.now = i ∧ Tr [g23] H7 (wT g23 w0 x0) Hn ∧ FB 2 2 w0.out ∧ FB 32 32 w0.back ∧ w0.offered ≤ total ∧ w0.out.pat = [] ∧ w0.back.pat = [] := ⟨_, _, hmn, ht0, hn, tt0, f1, f2, ho, rfl, rfl⟩
      clear hBl hKl hBn hKn hml hmn ttl ttn hm ht hn tt f1 f2 ho
      refine seqNil ?_
      refine hF17 _ _ ?_; clear hF17
      refine wpSeq fun F18 hF18 => ?_
      refine wpSeq fun F19 hF19 => ?_
      refine wpRegion ?_
      refine seqQ rfl rfl (yAssign (v := .int _ _) rfl rfl) ?_
      refine seqNil ?_
      refine hF19 _ _ ?_; clear hF19
      -- loop
      refine wpBlock ?_
      refine wpLoopS [10, 63, 64, 65, 66, 67, 68, 69, 70, 71, 72] (fun j : Nat => [(10, .int .i64 j)]) (fun j H' => (j : Int) ≤ 100 + 4 * total ∧ ∃ w x, WM g23 (g23 + 1) w x H' ∧ TI (2 * (i + j)) (300 * (i + j)) w ∧ w.now = i + j ∧ Tr [g23] H7 (wT g23 w x) H' ∧ FB 2 2 w.out ∧ FB 32 32 w.back ∧ w.offered ≤ total ∧ w.out.pat = [] ∧ w.back.pat = [] ∧ (1 ≤ j → LV total (66 + 2 * total - (j - 1)) w)) (fun j => (100 + 4 * total).toNat - j) 0 ⟨rfl, trivial⟩ ⟨by omega, w0, x0, hm0, ht0.mono (by omega) (by omega), by omega, tt0, f10, f20, ho0, e1, e2, fun h => absurd h (by omega)⟩ ?_
      clear hm0 ht0 hn0 tt0 f10 f20 ho0 e1 e2 w0 x0
      rintro j J2 Hp ⟨hj, w, x, hm, ht, hn, tt, f1, f2, ho, e1, e2, hlv⟩
      refine wpSeq fun F20 hF20 => ?_
      refine wpSeq fun F21 hF21 => ?_
      refine wpRegion ?_
      refine seqQ rfl rfl (yMove (v := .int _ _) rfl rfl) ?_
      refine seqQ rfl rfl (yMove (v := .int _ _) rfl rfl) ?_
      refine seqQ rfl rfl (yMul rfl rfl rfl (by unfold In64; omega)) ?_
      refine seqQ rfl rfl (yAdd rfl rfl rfl (by unfold In64; omega)) ?_
      refine seqQ rfl rfl (yLss rfl rfl rfl) ?_
      refine seqNil ?_
      refine hF21 _ _ ?_; clear hF21
      -- if t67
      refine wpIf rfl (fun hlt => ?_) (fun hlt => ?_)
      · skip
        refine wpSkip ?_
        refine hF20 _ _ ?_; clear hF20
        refine wpSeq fun F22 hF22 => ?_
        refine wpBlock ?_
        refine wpRegion ?_
        refine seqQ rfl rfl (yMove (v := .pointer _) rfl rfl) ?_
        refine seqQ rfl rfl (yMove (v := .int _ _) rfl rfl) ?_
        -- e slot 72: call F25<(*farandole/farandolelaw50.world).tick> t70 t71
        refine seqE rfl rfl (stepCall rfl Try.call25 rfl ?_)
        refine (wtick_c g23 (g23 + 1) w x (2 * (i + j)) (300 * (i + j)) total Hp hm ht (by omega) (by omega) (by omega) (by omega)).mono ?_
        rintro v Hr ⟨x2, hm2, tt2⟩
        have ht2 := ht.tick (total := total) (by omega) (by omega) (by omega) (by omega)
        obtain ⟨f1', f2', p1, p2, hl1, hl2⟩ := tick_live ht (by omega) (by omega) (by omega) (show total ≤ 100 by omega) f1 f2 ho
        refine seqNil ?_
        refine hF22 _ _ ?_; clear hF22
        refine wpRegion ?_
        refine seqQ rfl rfl (yMove (v := .int _ _) rfl rfl) ?_
        refine seqQ rfl rfl (yAdd rfl rfl rfl (by unfold In64; omega)) ?_
        refine seqQ rfl rfl (yAssign (v := .int _ _) rfl rfl) ?_
        refine seqNil ?_
        -- end loop
        refine loopEnd (j + 1) (by repeat (first | (with_reducible exact Agree.refl _ _) | refine Agree.upd ?_ rfl | refine Agree.over ?_ rfl)) (by omega) ⟨rfl, trivial⟩ ⟨by omega, _, x2, hm2, ht2.mono (by omega) (by omega), by rw [tick_now]; omega, tt.trans tt2, f1', f2', hl1.1, p1.trans e1, p2.trans e2, fun _ => ?_⟩
        by_cases hj0 : j = 0
        · subst hj0
          have : (66 + 2 * total - (((0 + 1 : Nat) : Int) - 1)) = 66 + 2 * total := by omega
          rw [this]
          exact hl1
        · have := hl2 e1 e2 _ (hlv (by omega))
          rw [show 66 + 2 * total - (((j + 1 : Nat) : Int) - 1) = 66 + 2 * total - ((j : Int) - 1) - 1 by omega]
          exact this
      · skip
        have hj1 : (j : Int) = 100 + 4 * total := by omega
        obtain ⟨d1, d2, d3⟩ := (hlv (by omega)).done ht (by omega)
        have hF : cellH Hp ((⟨g23, 0, none⟩ : Addr).add 26) = some (.bool false) := hm.blk.cell rfl
        have hD : cellH Hp ((⟨g23, 0, none⟩ : Addr).add 25) = some (.slice x.DA w.dlv.length x.dc) := hm.blk.cell rfl
        have hC : cellH Hp ((⟨g23, 0, none⟩ : Addr).add 24) = some (.int .i64 w.acked) := hm.blk.cell rfl
        have hS : cellH Hp (((⟨g23, 0, none⟩ : Addr).add 0).add 1) = some (.bool w.snd.busy) := hm.blk.cell2 rfl
        refine wpExit ?_
        refine hF18 _ _ ?_; clear hF18
        refine wpSeq fun F23 hF23 => ?_
        refine wpRegion ?_
        refine seqQ rfl rfl (yMove (v := .pointer _) rfl rfl) ?_
        refine seqQ rfl rfl (yNilCheck rfl rfl) ?_
        refine seqQ rfl rfl (yFieldAddr rfl Try.underlying67 rfl Try.sizeOf4 rfl rfl) ?_
        refine seqQ rfl rfl (yLoad rfl Try.underlying4 rfl rfl hF) ?_
        refine seqQ rfl rfl (yNot rfl rfl) ?_
        refine seqQ rfl rfl (yMove (v := .bool true) rfl rfl) ?_
        refine seqQ rfl rfl (yMove (v := .pointer _) rfl rfl) ?_
        -- e slot 80: call F26<(*farandole/farandolelaw50.world).inOrder> t79
        refine seqE rfl rfl (stepCall rfl Try.call26 rfl ?_)
        refine (inOrder_c g23 (g23 + 1) w x _ _ Hp hm ht).mono ?_
        rintro v _ ⟨rfl, e⟩
        obtain rfl := e.symm
        clear e
        refine seqQ rfl rfl (yPickT (v := .bool _) rfl rfl rfl) ?_
        refine seqQ rfl rfl (yMove (v := .bool true) rfl rfl) ?_
        refine seqQ rfl rfl (yMove (v := .pointer _) rfl rfl) ?_
        refine seqQ rfl rfl (yNilCheck rfl rfl) ?_
        refine seqQ rfl rfl (yFieldAddr rfl Try.underlying67 rfl Try.sizeOf25 rfl rfl) ?_
        refine seqQ rfl rfl (yLoad rfl Try.underlying25 rfl rfl hD) ?_
        refine seqQ rfl rfl (yLen rfl Try.underlying25 rfl) ?_
        refine seqQ rfl rfl (yMove (v := .int _ _) rfl rfl) ?_
        refine seqQ rfl rfl (yEql rfl rfl rfl) ?_
        refine seqQ rfl rfl (yPickT (v := .bool _) rfl rfl rfl) ?_
        -- guard t91
        rw [decide_eq_true d3]
        refine seqQ rfl rfl (yMove (v := .bool true) rfl rfl) ?_
        refine seqQ rfl rfl (yMove (v := .pointer _) rfl rfl) ?_
        refine seqQ rfl rfl (yNilCheck rfl rfl) ?_
        refine seqQ rfl rfl (yFieldAddr rfl Try.underlying67 rfl Try.sizeOf3 rfl rfl) ?_
        refine seqQ rfl rfl (yLoad rfl Try.underlying3 rfl rfl hC) ?_
        refine seqQ rfl rfl (yMove (v := .int _ _) rfl rfl) ?_
        refine seqQ rfl rfl (yEql rfl rfl rfl) ?_
        refine seqQ rfl rfl (yPickT (v := .bool _) rfl rfl rfl) ?_
        -- guard t99
        rw [decide_eq_true d2]
        refine seqQ rfl rfl (yMove (v := .bool true) rfl rfl) ?_
        refine seqQ rfl rfl (yMove (v := .pointer _) rfl rfl) ?_
        refine seqQ rfl rfl (yNilCheck rfl rfl) ?_
        refine seqQ rfl rfl (yFieldAddr rfl Try.underlying67 rfl Try.sizeOf29 rfl rfl) ?_
        refine seqQ rfl rfl (yFieldAddr rfl Try.underlying29 rfl Try.sizeOf4 rfl rfl) ?_
        refine seqQ rfl rfl (yLoad rfl Try.underlying4 rfl rfl hS) ?_
        refine seqQ rfl rfl (yNot rfl rfl) ?_
        refine seqQ rfl rfl (yPickT (v := .bool _) rfl rfl rfl) ?_
        refine seqQ rfl rfl (yAssign (v := .bool _) rfl rfl) ?_
        refine seqNil ?_
        refine hF23 _ _ ?_; clear hF23
        -- ret
        rw [d1]
        -- ret
        refine wpRet (fin1 (v := .bool _) rfl rfl ?_)
        exact ⟨rfl, hE7.mine tt.1 (by simpa using hgH)⟩
set_option maxRecDepth 100000 in
theorem opn_bytes (W : World) : Opn Try.prog W 58 1 (fun a : Option Addr × Nat × List UInt8 => [.slice a.1 a.2.2.length a.2.1]) (fun a => Rd eByte W.heap a.1 a.2.2 ∧ (∀ x ∈ a.2.2, True) ∧ a.2.2.length ≤ a.2.1 ∧ a.2.1 ≤ maxLen) :=
  opn_slice (c := eByte) Try.underlying58 (by kernel_rfl) (opn_byte Try.underlying5 (by kernel_rfl))
set_option maxRecDepth 100000 in
theorem opn_a2 (W : World) : Opn Try.prog W 59 2 (fun l : List Int => l.map (Value.int .u8)) (fun l => l.length = 2 ∧ ∀ n ∈ l, 0 ≤ n ∧ n ≤ 255) :=
  (opn_array Try.underlying59 (by kernel_rfl) rfl (opn_u8i (by kernel_rfl) (by kernel_rfl))).map id (fun a => by simp [flatMap_one]) (fun _ h => h)
set_option maxRecDepth 100000 in
set_option maxRecDepth 100000 in
theorem transportDelivery_lifted (os : Os) (started : os.Started) (H : Type) (enc : TypeId × Value → H) :
    ReturnsInHanded {} Try.checked os 6 .any (Rows.transportDeliverySpec.pre6 enc Try.prog Try.f6 Rows.transportDeliveryRow.domain false) (Rows.transportDeliverySpec.post enc Try.prog Try.f6 false true false false) := by
  refine law_lifted started Rows.transportDeliverySpec rfl (by kernel_rfl) Try.func6 rfl
    (fun ds h => by match ds, h with | [_, _, _], _ => rfl) (of_decide_eq_true (by kernel_rfl))
    (ChangeSpec.witness6 (enc := enc) (C := Try.checked) false ⟨#[], #[.slice none 0 0, .slice none 0 0, .agg #[.int .u8 0, .int .u8 0]], []⟩ 8 (by kernel_rfl) (by kernel_rfl) (by kernel_rfl) (by kernel_rfl)) ?_
  intro W base args ds p hval hA
  rw [Try.params6] at hA hval
  obtain ⟨v0, v1, v2, d0, d1, d2, p0, p1, p2, rfl, rfl, rfl, h0, h1, h2⟩ := trodAll_three hA
  have g0 := hval 0 _ v0 rfl rfl
  have g1 := hval 1 _ v1 rfl rfl
  have g2 := hval 2 _ v2 rfl rfl
  obtain ⟨⟨A, ca, l1⟩, rfl, kA, -, k2, k3⟩ := (opn_bytes W).one (one_slice Try.underlying58 g0) h0
  obtain ⟨⟨B, cb, l2⟩, rfl, kB, -, k4, k5⟩ := (opn_bytes W).one (one_slice Try.underlying58 g1) h1
  obtain ⟨n, rfl, hn1, hn2⟩ := (opn_a2 W).agg Try.underlying59 rfl g2 h2
  match n, hn1, hn2 with
  | [a, c], _, hn2 => exact delivery_walk A B ca cb l1 l2 a c W.heap kA kB (hn2 a (by simp)) (hn2 c (by simp))
set_option maxRecDepth 100000 in
theorem transportDelivery_holds : Rows.TransportDeliverySaid :=
  OpenClaim.holds_of_wide 6 Try.f6 rfl rfl rfl rfl rfl rfl rfl ⟨rfl, rfl, rfl, rfl, rfl⟩ rfl rfl rfl rfl rfl (by kernel_rfl) Try.func6 (by kernel_rfl)
    (of_decide_eq_true (by kernel_rfl)) (by unfold Func.isWrapper; first | (rw [if_pos (by decide +kernel)]; kernel_rfl) | (rw [if_neg (by decide +kernel)]; exact ⟨rfl, rfl⟩))
    (fun os started H enc _ => transportDelivery_lifted os started H enc)
end Go.Proofs.Ytcfnmklbkhibgaa
