/- Layer 50: the world of the statements, its mathematics: what holds at every time. -/
import Derived.Test.YtcfnmklbkhibgaaU1
import Derived.Test.YtcfnmklbkhibgaaR4
namespace Go.Proofs.Ytcfnmklbkhibgaa
open Go.RowKit

def msgS (s : Int) : Pk := ⟨1, 1, 0, 0, 1, s, (s - 1) % 40, [], []⟩
def ackS (s : Int) : Pk := ⟨2, 1, 0, 0, 1, s, 0, [], []⟩
set_option maxRecDepth 100000 in
theorem msgS_valid {s : Int} (h : 1 ≤ s ∧ s ≤ 1099511627776) : ValidP (msgS s) := by
  unfold ValidP DataP NumP
  simp [msgS]
  omega
set_option maxRecDepth 100000 in
theorem ackS_valid {s : Int} (h : 1 ≤ s ∧ s ≤ 1099511627776) : ValidP (ackS s) := by
  unfold ValidP AckP NumP BareP
  simp [ackS]
  omega
set_option maxRecDepth 100000 in
theorem nil64 {p : Pk} (h : p.vals = []) : N64 p := fun v hv => by rw [h] at hv; cases hv
set_option maxRecDepth 100000 in
theorem hdrs_len {p : Pk} (h : ValidP p) : ((hdrs p).flatMap encI).length ≤ 70 := by
  have h1 := flat_le encI 10 (hdrs p) fun n hn => encI_length (hdrs_ok h.few n hn)
  exact h1
set_option maxRecDepth 100000 in
theorem enc_len {p : Pk} (h : ValidP p) (hv : p.vals = []) (hc : p.clk = []) : (encP p).2.length ≤ 1000 := by
  rw [encP_len h]
  have h1 := hdrs_len h
  have z0 : (encI 0).length ≤ 10 := encI_length ⟨by decide, by decide⟩
  have e1 : (encVals (p.vals.map toV)).length ≤ 10 := by rw [hv]; show (encI 0 ++ []).length ≤ 10; rw [List.append_nil]; exact z0
  have e2 : (encInts p.clk).length ≤ 10 := by rw [hc]; show (encI 0 ++ []).length ≤ 10; rw [List.append_nil]; exact z0
  unfold encPk
  rw [List.length_append, List.length_append]
  omega
set_option maxRecDepth 100000 in
theorem arr_dec {p : Pk} (h : ValidP p) (h64 : N64 p) (f : UInt8) : decP (arr f (encP p).2) = (0, p) ∨ (decP (arr f (encP p).2)).1 ≠ 0 := by
  unfold arr
  split
  · rename_i hc
    refine .inr ?_
    rw [encP_valid h] at hc ⊢
    dsimp only at hc ⊢
    have hk : f.toNat / 8 % (sealed (encPk p)).length < (sealed (encPk p)).length := Nat.mod_lt _ hc.2
    rw [dec_bad (damaged hk (by
      rw [List.getD_eq_getElem?_getD, List.getElem?_eq_getElem hk]
      simp only [Option.getD_some]
      generalize (sealed (encPk p))[f.toNat / 8 % (sealed (encPk p)).length] = c
      intro e
      have := congrArg (c ^^^ ·) e
      simp only [← UInt8.xor_assoc, UInt8.xor_self, UInt8.zero_xor] at this
      exact absurd this (by decide)))]
    decide
  · exact .inl (dec_enc h h64)
structure Wd where
  snd : Sd
  last : Int
  out : Lk
  back : Lk
  now : Int
  offered : Int
  acked : Int
  dlv : List Int
def sendF (l : Lk) (p : Pk) : Lk := (sendL l (encP p).2).2
set_option maxRecDepth 100000 in
theorem send_ok {l : Lk} {p : Pk} (hv : ValidL l) (hs : l.sent < 1099511627776) (hp : ValidP p) (h1 : p.vals = []) (h2 : p.clk = []) :
    (sendL l (encP p).2).1 = 0 ∧ ValidL (sendF l p) ∧ (sendF l p).now = l.now ∧ (sendF l p).pat = l.pat ∧ (sendF l p).sent = l.sent + 1 ∧ (sendF l p).fly = putAll l.now (arr (fate l) (encP p).2) (delays (fate l)) l.fly := by
  have e := sendL_ok (l := l) (d := (encP p).2) (by intro h; rcases h with h | h; exact h hv; omega) (by have := enc_len hp h1 h2; omega)
  have e1 : (sendL l (encP p).2).1 = 0 := by rw [e]
  refine ⟨e1, valid_send e1, ?_, ?_, ?_, ?_⟩ <;> unfold sendF <;> rw [e]
set_option maxRecDepth 100000 in
theorem send_fly {l : Lk} {p : Pk} (hv : ValidL l) (hs : l.sent < 1099511627776) (hp : ValidP p) (h1 : p.vals = []) (h2 : p.clk = []) {y : Fl} (hy : y ∈ (sendF l p).fly) : y ∈ l.fly ∨ decP y.2 = (0, p) ∨ (decP y.2).1 ≠ 0 := by
  rw [(send_ok hv hs hp h1 h2).2.2.2.2.2] at hy
  rcases putAll_mem _ hy with h | ⟨t, -, rfl⟩
  · exact .inl h
  · exact .inr (arr_dec hp (nil64 h1) _)
def OutOk (S : Int) (d : List UInt8) : Prop := (decP d).1 ≠ 0 ∨ ∃ s, 1 ≤ s ∧ s ≤ S ∧ decP d = (0, msgS s)
def BackOk (L : Int) (d : List UInt8) : Prop := (decP d).1 ≠ 0 ∨ ∃ s, 1 ≤ s ∧ s ≤ L ∧ decP d = (0, ackS s)
set_option maxRecDepth 100000 in
theorem OutOk.mono {S T : Int} {d : List UInt8} (h : OutOk S d) (hs : S ≤ T) : OutOk T d := h.imp id fun ⟨s, h1, h2, h3⟩ => ⟨s, h1, by omega, h3⟩
set_option maxRecDepth 100000 in
theorem BackOk.mono {S T : Int} {d : List UInt8} (h : BackOk S d) (hs : S ≤ T) : BackOk T d := h.imp id fun ⟨s, h1, h2, h3⟩ => ⟨s, h1, by omega, h3⟩
/-- What holds at every time; a and b: so many packets were sent at most. -/
structure TI (a b : Int) (w : Wd) : Prop where
  now : 0 ≤ w.now ∧ w.now ≤ 1000
  off : 0 ≤ w.offered ∧ w.offered ≤ 100
  next : w.snd.next = w.offered + 1
  busy : w.snd.busy = true → w.snd.pk = msgS w.offered ∧ (0 ≤ w.snd.due ∧ w.snd.due ≤ w.now + 64) ∧ (1 ≤ w.snd.tries ∧ w.snd.tries ≤ w.now + 1) ∧ 1 ≤ w.offered ∧ w.acked = w.offered - 1 ∧ (w.last = w.offered ∨ w.last = w.offered - 1)
  idle : w.snd.busy = false → w.snd.pk = pk0 ∧ w.snd.due = 0 ∧ w.snd.tries = 0 ∧ w.acked = w.offered ∧ w.last = w.offered
  dlvl : (w.dlv.length : Int) = w.last
  dlv : ∀ i : Nat, i < w.dlv.length → w.dlv.getD i 0 = (i : Int) % 40
  vout : ValidL w.out
  nout : w.out.now = w.now
  sout : w.out.sent ≤ a
  fout : ∀ y ∈ w.out.fly, OutOk w.offered y.2
  vback : ValidL w.back
  nback : w.back.now = w.now
  sback : w.back.sent ≤ b
  fback : ∀ y ∈ w.back.fly, BackOk w.last y.2
section
variable {a b : Int} {w : Wd}
set_option maxRecDepth 100000 in
theorem TI.mono (h : TI a b w) {c d : Int} (h1 : a ≤ c) (h2 : b ≤ d) : TI c d w := { h with sout := by have := h.sout; omega, sback := by have := h.sback; omega }
set_option maxRecDepth 100000 in
theorem TI.lastr (h : TI a b w) : w.last = w.offered ∨ (w.snd.busy = true ∧ w.last = w.offered - 1 ∧ 1 ≤ w.offered) := by
  cases hb : w.snd.busy with
  | true => obtain ⟨-, -, -, h1, -, h2⟩ := h.busy hb; rcases h2 with h2 | h2; exact .inl h2; exact .inr ⟨rfl, h2, h1⟩
  | false => exact .inl (h.idle hb).2.2.2.2
set_option maxRecDepth 100000 in
theorem TI.sdp (h : TI a b w) : SdP w.snd := by
  have h1 := h.off
  have h2 := h.next
  have h3 := h.now
  unfold SdP
  refine ⟨by omega, by omega, ?_⟩
  split
  · rename_i hb
    obtain ⟨e, hd, ht, ho, -⟩ := h.busy hb
    rw [e]
    exact ⟨rfl, msgS_valid (by omega), by show w.offered = _; omega, by omega, by omega, by omega, by omega⟩
  · rename_i hb
    obtain ⟨e1, e2, e3, -⟩ := h.idle (by simpa using hb)
    exact ⟨e1, e2, e3⟩
/-- A packet arrives at the receiver. -/
def arriveF (w : Wd) (d : List UInt8) : Wd := if (decP d).1 ≠ 0 then w else { w with last := if (decP d).2.seq = w.last + 1 then (decP d).2.seq else w.last, dlv := if (decP d).2.seq = w.last + 1 then w.dlv ++ [(decP d).2.label] else w.dlv, back := sendF w.back (ackS (decP d).2.seq) }
set_option maxRecDepth 100000 in
theorem arrive_offered (w : Wd) (d : List UInt8) : (arriveF w d).offered = w.offered := by unfold arriveF; split <;> rfl
set_option maxRecDepth 100000 in
theorem getD_snoc {l : List Int} {x : Int} {i : Nat} : (l ++ [x]).getD i 0 = if i < l.length then l.getD i 0 else if i = l.length then x else 0 := by
  rw [List.getD_eq_getElem?_getD, List.getD_eq_getElem?_getD]
  split
  · rename_i h; rw [List.getElem?_append_left h]
  · rename_i h
    rw [List.getElem?_append_right (by omega)]
    split
    · rename_i e; rw [e, Nat.sub_self]; rfl
    · rename_i e; rw [List.getElem?_eq_none (by simp; omega)]; rfl
set_option maxRecDepth 100000 in
theorem TI.arrive (h : TI a b w) (hb : b < 1099511627776) {d : List UInt8} (hd : OutOk w.offered d) : TI a (b + 1) (arriveF w d) := by
  unfold arriveF
  rcases hd with hd | ⟨s, h1, h2, hd⟩
  · rw [if_pos hd]
    exact h.mono (Int.le_refl _) (by omega)
  · rw [hd, if_neg (by simp)]
    dsimp only
    have hsq : (msgS s).seq = s := rfl
    have hlb : (msgS s).label = (s - 1) % 40 := rfl
    rw [hsq, hlb]
    have hoff := h.off
    have hs := h.sback
    obtain ⟨q1, q2, q3, q4, q5, q6⟩ := send_ok (p := ackS s) h.vback (by omega) (ackS_valid (by omega)) rfl rfl
    have hl := h.lastr
    have hdl := h.dlvl
    by_cases hn : s = w.last + 1
    · rw [if_pos hn, if_pos hn]
      have hso : s = w.offered := by omega
      refine { now := h.now, off := h.off, next := h.next, busy := fun hb => ?_, idle := fun hb => ?_, dlvl := ?_, dlv := fun i hi => ?_, vout := h.vout, nout := h.nout, sout := h.sout, fout := h.fout, vback := q2, nback := q3.trans h.nback, sback := by show (sendF w.back (ackS s)).sent ≤ _; rw [q5]; omega, fback := fun y hy => ?_ }
      · obtain ⟨e1, e2, e3, e4, e5, -⟩ := h.busy hb
        exact ⟨e1, e2, e3, e4, e5, .inl hso⟩
      · obtain ⟨-, -, -, -, e5⟩ := h.idle hb
        omega
      · show ((w.dlv ++ [(s - 1) % 40]).length : Int) = s
        rw [List.length_append, List.length_singleton]
        omega
      · show (w.dlv ++ [(s - 1) % 40]).getD i 0 = _
        have hi : i < (w.dlv ++ [(s - 1) % 40]).length := hi
        rw [List.length_append, List.length_singleton] at hi
        rw [getD_snoc]
        split
        · rename_i hlt; exact h.dlv i hlt
        · rw [if_pos (by omega)]
          congr 1
          omega
      · rcases send_fly h.vback (by omega) (ackS_valid (by omega)) rfl rfl hy with hy | hy | hy
        · exact (h.fback y hy).mono (by dsimp only; omega)
        · exact .inr ⟨s, h1, Int.le_refl _, hy⟩
        · exact .inl hy
    · rw [if_neg hn, if_neg hn]
      have hsl : s ≤ w.last := by omega
      refine { now := h.now, off := h.off, next := h.next, busy := h.busy, idle := h.idle, dlvl := h.dlvl, dlv := h.dlv, vout := h.vout, nout := h.nout, sout := h.sout, fout := h.fout, vback := q2, nback := q3.trans h.nback, sback := by show (sendF w.back (ackS s)).sent ≤ _; rw [q5]; omega, fback := fun y hy => ?_ }
      rcases send_fly h.vback (by omega) (ackS_valid (by omega)) rfl rfl hy with hy | hy | hy
      · exact h.fback y hy
      · exact .inr ⟨s, h1, hsl, hy⟩
      · exact .inl hy
/-- An acknowledgement arrives at the sender. -/
def returnedF (w : Wd) (d : List UInt8) : Wd := if (decP d).1 ≠ 0 then w else if w.snd.busy = true ∧ (decP d).2.seq = w.snd.pk.seq then { w with snd := ⟨w.snd.next, false, pk0, 0, 0⟩, acked := w.acked + 1 } else w
set_option maxRecDepth 100000 in
theorem returned_last (w : Wd) (d : List UInt8) : (returnedF w d).last = w.last := by unfold returnedF; split; rfl; split <;> rfl
set_option maxRecDepth 100000 in
theorem TI.returned (h : TI a b w) {d : List UInt8} (hd : BackOk w.last d) : TI a b (returnedF w d) := by
  unfold returnedF
  rcases hd with hd | ⟨s, h1, h2, hd⟩
  · rw [if_pos hd]; exact h
  · rw [hd, if_neg (by simp)]
    dsimp only
    split
    · rename_i hc
      obtain ⟨hb, hq⟩ := hc
      obtain ⟨e1, e2, e3, e4, e5, e6⟩ := h.busy hb
      rw [e1] at hq
      have hq : s = w.offered := hq
      exact { now := h.now, off := h.off, next := h.next, busy := fun hb => (by cases hb), idle := fun _ => ⟨rfl, rfl, rfl, by show w.acked + 1 = w.offered; omega, by show w.last = w.offered; omega⟩, dlvl := h.dlvl, dlv := h.dlv, vout := h.vout, nout := h.nout, sout := h.sout, fout := h.fout, vback := h.vback, nback := h.nback, sback := h.sback, fback := h.fback }
    · exact h
set_option maxRecDepth 100000 in
theorem TI.arrives : ∀ (ds : List (List UInt8)) {w : Wd} {b : Int}, TI a b w → b + ds.length < 1099511627776 → (∀ d ∈ ds, OutOk w.offered d) → TI a (b + ds.length) (ds.foldl arriveF w)
  | [], w, b, h, _, _ => by simpa using h
  | d :: ds, w, b, h, hb, hd => by
    rw [List.length_cons] at hb ⊢
    have h1 := TI.arrives ds (h.arrive (by omega) (hd d (.head _))) (by omega) fun x hx => by rw [arrive_offered]; exact hd x (.tail _ hx)
    rw [show b + ((ds.length + 1 : Nat) : Int) = b + 1 + (ds.length : Int) by omega]
    exact h1
set_option maxRecDepth 100000 in
theorem TI.returns : ∀ (ds : List (List UInt8)) {w : Wd}, TI a b w → (∀ d ∈ ds, BackOk w.last d) → TI a b (ds.foldl returnedF w)
  | [], w, h, _ => h
  | d :: ds, w, h, hd => TI.returns ds (h.returned (hd d (.head _))) fun x hx => by rw [returned_last]; exact hd x (.tail _ hx)
/-- The time goes on. -/
def clockF (w : Wd) : Wd := { w with now := w.now + 1, out := (tickL w.out).1, back := (tickL w.back).1 }
set_option maxRecDepth 100000 in
theorem TI.clock (h : TI a b w) (hn : w.now < 1000) : TI a b (clockF w) ∧ (∀ d ∈ (tickL w.out).2, OutOk w.offered d) ∧ (∀ d ∈ (tickL w.back).2, BackOk w.last d) := by
  have e1 := tick_ok h.vout (by rw [h.nout]; omega)
  have e2 := tick_ok h.vback (by rw [h.nback]; omega)
  have v1 := valid_tick h.vout
  have v2 := valid_tick h.vback
  have hnow := h.now
  refine ⟨{ now := by show 0 ≤ w.now + 1 ∧ w.now + 1 ≤ 1000; omega, off := h.off, next := h.next, busy := fun hb => ?_, idle := h.idle, dlvl := h.dlvl, dlv := h.dlv, vout := v1, nout := by show (tickL w.out).1.now = _; rw [e1]; show w.out.now + 1 = _; rw [h.nout]; rfl, sout := by show (tickL w.out).1.sent ≤ _; rw [e1]; exact h.sout, fout := fun y hy => ?_, vback := v2, nback := by show (tickL w.back).1.now = _; rw [e2]; show w.back.now + 1 = _; rw [h.nback]; rfl, sback := by show (tickL w.back).1.sent ≤ _; rw [e2]; exact h.sback, fback := fun y hy => ?_ }, fun d hd => ?_, fun d hd => ?_⟩
  · obtain ⟨e1, e2, e3, e4⟩ := h.busy hb
    exact ⟨e1, ⟨e2.1, by show w.snd.due ≤ w.now + 1 + 64; omega⟩, ⟨e3.1, by show w.snd.tries ≤ w.now + 1 + 1; omega⟩, e4⟩
  · have hy : y ∈ (tickL w.out).1.fly := hy
    rw [e1] at hy
    exact h.fout y ((List.dropWhile_sublist _).subset hy)
  · have hy : y ∈ (tickL w.back).1.fly := hy
    rw [e2] at hy
    exact h.fback y ((List.dropWhile_sublist _).subset hy)
  · rw [e1] at hd
    obtain ⟨y, hy, rfl⟩ := List.mem_map.1 hd
    exact h.fout y ((List.takeWhile_sublist _).subset hy)
  · rw [e2] at hd
    obtain ⟨y, hy, rfl⟩ := List.mem_map.1 hd
    exact h.fback y ((List.takeWhile_sublist _).subset hy)
set_option maxRecDepth 100000 in
theorem tick_few {l : Lk} (h : ValidL l) : (tickL l).2.length ≤ 300 := by
  have hf := h.good.len
  unfold tickL
  split
  · simp
  · rw [List.length_map]
    exact Nat.le_trans (List.takeWhile_sublist _).length_le hf
/-- The sender transmits again. -/
def resF (w : Wd) : Wd := if w.snd.busy = true ∧ w.snd.due ≤ w.now then { w with snd := { w.snd with tries := w.snd.tries + 1, due := w.now + min (ivl (w.snd.tries + 1)) 64 }, out := sendF w.out w.snd.pk } else w
set_option maxRecDepth 100000 in
theorem TI.res (h : TI a b w) (ha : a < 1099511627776) (ht : w.snd.busy = true → w.snd.tries ≤ w.now) : TI (a + 1) b (resF w) := by
  unfold resF
  split
  · rename_i hc
    obtain ⟨hb, hd⟩ := hc
    obtain ⟨e1, e2, e3, e4, e5, e6⟩ := h.busy hb
    have hoff := h.off
    have hs := h.sout
    have hnow := h.now
    have ht := ht hb
    have hi := ivl_range (w.snd.tries + 1)
    rw [e1]
    obtain ⟨q1, q2, q3, q4, q5, q6⟩ := send_ok (p := msgS w.offered) h.vout (by omega) (msgS_valid (by omega)) rfl rfl
    refine { now := h.now, off := h.off, next := h.next, busy := fun _ => ⟨e1, ⟨by dsimp only; omega, by dsimp only; omega⟩, ⟨by dsimp only; omega, by dsimp only; omega⟩, e4, e5, e6⟩, idle := fun hf => ?_, dlvl := h.dlvl, dlv := h.dlv, vout := q2, nout := q3.trans h.nout, sout := by show (sendF w.out (msgS w.offered)).sent ≤ _; rw [q5]; omega, fout := fun y hy => ?_, vback := h.vback, nback := h.nback, sback := h.sback, fback := h.fback }
    · have hf : w.snd.busy = false := hf
      rw [hb] at hf
      cases hf
    · rcases send_fly h.vout (by omega) (msgS_valid (by omega)) rfl rfl hy with hy | hy | hy
      · exact h.fout y hy
      · exact .inr ⟨w.offered, e4, Int.le_refl _, hy⟩
      · exact .inl hy
  · exact h.mono (by omega) (Int.le_refl _)
/-- The sender offers the next message. -/
def offF (total : Int) (w : Wd) : Wd := if w.offered < total ∧ w.snd.busy = false then { w with snd := ⟨w.snd.next + 1, true, msgS (w.offered + 1), w.now + 8, 1⟩, out := sendF w.out (msgS (w.offered + 1)), offered := w.offered + 1 } else w
set_option maxRecDepth 100000 in
theorem TI.offer (h : TI a b w) (ha : a < 1099511627776) {total : Int} (ht : total ≤ 100) : TI (a + 1) b (offF total w) := by
  unfold offF
  split
  · rename_i hc
    obtain ⟨ho, hb⟩ := hc
    obtain ⟨e1, e2, e3, e4, e5⟩ := h.idle hb
    have hoff := h.off
    have hs := h.sout
    have hnow := h.now
    have hnx := h.next
    obtain ⟨q1, q2, q3, q4, q5, q6⟩ := send_ok (p := msgS (w.offered + 1)) h.vout (by omega) (msgS_valid (by omega)) rfl rfl
    refine { now := h.now, off := by dsimp only; omega, next := by dsimp only; omega, busy := fun _ => ⟨rfl, ⟨by dsimp only; omega, by dsimp only; omega⟩, ⟨by dsimp only; omega, by dsimp only; omega⟩, by dsimp only; omega, by dsimp only; omega, .inr (by dsimp only; omega)⟩, idle := fun hf => (by cases hf), dlvl := h.dlvl, dlv := h.dlv, vout := q2, nout := q3.trans h.nout, sout := by show (sendF w.out (msgS (w.offered + 1))).sent ≤ _; rw [q5]; omega, fout := fun y hy => ?_, vback := h.vback, nback := h.nback, sback := h.sback, fback := h.fback }
    rcases send_fly h.vout (by omega) (msgS_valid (by omega)) rfl rfl hy with hy | hy | hy
    · exact (h.fout y hy).mono (by dsimp only; omega)
    · exact .inr ⟨w.offered + 1, by omega, Int.le_refl _, hy⟩
    · exact .inl hy
  · exact h.mono (by omega) (Int.le_refl _)
def midF (w : Wd) : Wd := (tickL w.back).2.foldl returnedF ((tickL w.out).2.foldl arriveF (clockF w))
def tickF (total : Int) (w : Wd) : Wd := offF total (resF (midF w))
set_option maxRecDepth 100000 in
theorem arrive_same (w : Wd) (d : List UInt8) : (arriveF w d).snd = w.snd ∧ (arriveF w d).out = w.out ∧ (arriveF w d).now = w.now ∧ (arriveF w d).offered = w.offered ∧ (arriveF w d).acked = w.acked := by unfold arriveF; split <;> exact ⟨rfl, rfl, rfl, rfl, rfl⟩
set_option maxRecDepth 100000 in
theorem arrives_same : ∀ (ds : List (List UInt8)) (w : Wd), (ds.foldl arriveF w).snd = w.snd ∧ (ds.foldl arriveF w).out = w.out ∧ (ds.foldl arriveF w).now = w.now ∧ (ds.foldl arriveF w).offered = w.offered ∧ (ds.foldl arriveF w).acked = w.acked
  | [], _ => ⟨rfl, rfl, rfl, rfl, rfl⟩
  | d :: ds, w => by
    obtain ⟨h1, h2, h3, h4, h5⟩ := arrives_same ds (arriveF w d)
    obtain ⟨k1, k2, k3, k4, k5⟩ := arrive_same w d
    exact ⟨h1.trans k1, h2.trans k2, h3.trans k3, h4.trans k4, h5.trans k5⟩
set_option maxRecDepth 100000 in
theorem returned_same (w : Wd) (d : List UInt8) : ((returnedF w d).snd = w.snd ∨ (returnedF w d).snd.busy = false) ∧ (returnedF w d).out = w.out ∧ (returnedF w d).back = w.back ∧ (returnedF w d).now = w.now ∧ (returnedF w d).offered = w.offered ∧ (returnedF w d).last = w.last := by
  unfold returnedF
  split
  · exact ⟨.inl rfl, rfl, rfl, rfl, rfl, rfl⟩
  · split
    · exact ⟨.inr rfl, rfl, rfl, rfl, rfl, rfl⟩
    · exact ⟨.inl rfl, rfl, rfl, rfl, rfl, rfl⟩
set_option maxRecDepth 100000 in
theorem returned_idle {w : Wd} (h : w.snd.busy = false) (d : List UInt8) : returnedF w d = w := by
  unfold returnedF
  split
  · rfl
  · rw [if_neg (fun hc => by rw [h] at hc; cases hc.1)]
set_option maxRecDepth 100000 in
theorem returns_idle : ∀ (ds : List (List UInt8)) {w : Wd}, w.snd.busy = false → ds.foldl returnedF w = w
  | [], _, _ => rfl
  | d :: ds, w, h => by rw [List.foldl_cons, returned_idle h]; exact returns_idle ds h
set_option maxRecDepth 100000 in
theorem returns_same : ∀ (ds : List (List UInt8)) (w : Wd), ((ds.foldl returnedF w).snd = w.snd ∨ (ds.foldl returnedF w).snd.busy = false) ∧ (ds.foldl returnedF w).out = w.out ∧ (ds.foldl returnedF w).back = w.back ∧ (ds.foldl returnedF w).now = w.now ∧ (ds.foldl returnedF w).offered = w.offered ∧ (ds.foldl returnedF w).last = w.last
  | [], _ => ⟨.inl rfl, rfl, rfl, rfl, rfl, rfl⟩
  | d :: ds, w => by
    obtain ⟨h0, h1, h2, h3, h4, h5⟩ := returns_same ds (returnedF w d)
    obtain ⟨k0, k1, k2, k3, k4, k5⟩ := returned_same w d
    refine ⟨?_, h1.trans k1, h2.trans k2, h3.trans k3, h4.trans k4, h5.trans k5⟩
    rcases k0 with k0 | k0
    · rcases h0 with h0 | h0
      · exact .inl (h0.trans k0)
      · exact .inr h0
    · rw [List.foldl_cons, returns_idle ds k0]
      exact .inr k0
set_option maxRecDepth 100000 in
theorem mid_same (w : Wd) : ((midF w).snd = w.snd ∨ (midF w).snd.busy = false) ∧ (midF w).out = (tickL w.out).1 ∧ (midF w).now = w.now + 1 ∧ (midF w).offered = w.offered := by
  obtain ⟨h0, h1, h2, h3, h4, h5⟩ := returns_same (tickL w.back).2 ((tickL w.out).2.foldl arriveF (clockF w))
  obtain ⟨k1, k2, k3, k4, k5⟩ := arrives_same (tickL w.out).2 (clockF w)
  refine ⟨?_, h1.trans k2, h3.trans k3, h4.trans k4⟩
  rcases h0 with h0 | h0
  · exact .inl (h0.trans k1)
  · exact .inr h0
set_option maxRecDepth 100000 in
theorem TI.mid (h : TI a b w) (hn : w.now < 1000) (hb : b + 300 < 1099511627776) : TI a (b + 300) (midF w) ∧ ((midF w).snd.busy = true → (midF w).snd.tries ≤ (midF w).now) := by
  obtain ⟨h1, h2, h3⟩ := h.clock hn
  have hf := tick_few h.vout
  have h4 := h1.arrives (tickL w.out).2 (by omega) h2
  have hl : ∀ d ∈ (tickL w.back).2, BackOk ((tickL w.out).2.foldl arriveF (clockF w)).last d := fun d hd => (h3 d hd).mono (by
    have : ∀ (ds : List (List UInt8)) (w : Wd), w.last ≤ (ds.foldl arriveF w).last := by
      intro ds
      induction ds with
      | nil => intro w; exact Int.le_refl _
      | cons d ds ih =>
        intro w
        refine Int.le_trans ?_ (ih (arriveF w d))
        unfold arriveF
        split
        · exact Int.le_refl _
        · show w.last ≤ if (decP d).2.seq = w.last + 1 then (decP d).2.seq else w.last
          split <;> omega
    exact this _ (clockF w))
  have h5 := (h4.returns _ hl).mono (Int.le_refl a) (show b + ((tickL w.out).2.length : Int) ≤ b + 300 by omega)
  refine ⟨h5, fun hbz => ?_⟩
  obtain ⟨m1, -, m3, -⟩ := mid_same w
  rcases m1 with m1 | m1
  · rw [m1] at hbz ⊢
    rw [m3]
    have := (h.busy hbz).2.2.1
    omega
  · rw [m1] at hbz
    cases hbz
set_option maxRecDepth 100000 in
theorem TI.tick (h : TI a b w) (hn : w.now < 1000) (ha : a + 1 < 1099511627776) (hb : b + 300 < 1099511627776) {total : Int} (ht : total ≤ 100) : TI (a + 2) (b + 300) (tickF total w) := by
  obtain ⟨h1, h2⟩ := h.mid hn hb
  have h3 := (h1.res (by omega) h2).offer ha ht
  rw [show a + 2 = a + 1 + 1 by omega]
  exact h3
set_option maxRecDepth 100000 in
theorem tick_now (total : Int) (w : Wd) : (tickF total w).now = w.now + 1 := by
  have h := (mid_same w).2.2.1
  unfold tickF offF resF
  split
  · split <;> exact h
  · split <;> exact h
set_option maxRecDepth 100000 in
/-- What the statements ask. -/
theorem TI.order (h : TI a b w) : (∀ i : Nat, i < w.dlv.length → w.dlv.getD i 0 = (i : Int) % 40) ∧ (w.dlv.length : Int) ≤ w.offered ∧ w.acked ≤ w.dlv.length ∧ (w.dlv.length : Int) ≤ w.acked + 1 := by
  have h1 := h.dlvl
  refine ⟨h.dlv, ?_⟩
  cases hb : w.snd.busy with
  | true => obtain ⟨-, -, -, h2, h3, h4⟩ := h.busy hb; omega
  | false => obtain ⟨-, -, -, h2, h3⟩ := h.idle hb; omega
end
end Go.Proofs.Ytcfnmklbkhibgaa
