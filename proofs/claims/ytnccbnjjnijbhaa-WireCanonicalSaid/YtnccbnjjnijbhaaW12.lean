/- WireCanonical: bytes that are read completely are the encoding of what was read. Conditions: none beyond the statement's. -/
import Derived.Test.YtnccbnjjnijbhaaW11
import Derived.Test.YtnccbnjjnijbhaaLH
namespace Go.Proofs.Ytnccbnjjnijbhaa
open Go.ChangeShapes Go.WideShapes Go.ChangeAt Go.RowKit Go.Deep

set_option maxRecDepth 100000 in
theorem PP.evt {b0 g : Nat} {B : Option Addr} {cB : Nat} {D : List UInt8} {H H' : Heap} {v : Value} (h : PP pEvt (VE b0) (.agg (evC ev0 none 0).toArray) g B cB D 0 false H v H') :
    Keep [g] H H' ∧ ∃ x A c f k, v = .agg (evC x A c).toArray ∧ Rdr H' g B cB D k f ∧ (¬ (f = true ∨ k < D.length) → D = encE x) ∧ Own eWV 34 H' b0 (.slice A x.values.length c) x.values ∧ OkE x := by
  obtain ⟨hK, ⟨x, k', hp, hr, ⟨A, c, rfl, ho⟩, hok⟩ | ⟨hp, hr, rfl⟩⟩ := h
  · refine ⟨hK, x, A, c, false, k', rfl, hr, fun hn => ?_, ho, hok⟩
    have := pEvt_canon hp
    rw [List.drop_zero, List.drop_of_length_le (by omega), List.append_nil] at this
    exact this
  · exact ⟨hK, ev0, none, 0, true, 0, rfl, hr, fun hn => absurd (.inl rfl) hn, Own.nil _ _, ⟨by decide, by decide⟩, ⟨by decide, by decide⟩, ⟨by decide, by decide⟩, by simp [ev0], by simp [ev0]⟩
set_option maxRecDepth 100000 in
theorem PP.lst {α : Type} {c : El α} {e : TypeId} {Q : α → Prop} {p : List UInt8 → Option (α × List UInt8)} {enc : α → List UInt8} (hp : ∀ b x r, p b = some (x, r) → b = enc x ++ r) {m : Int} (hm : 0 ≤ m) {b0 g : Nat} {B : Option Addr} {cB : Nat} {D : List UInt8} {H H' : Heap} {v : Value} (h : PP (pList p m) (VL c e b0 Q) (.slice none 0 0) g B cB D 0 false H v H') :
    Keep [g] H H' ∧ ∃ l A ca f k, v = .slice A (List.length (α := α) l) ca ∧ Rdr H' g B cB D k f ∧ (¬ (f = true ∨ k < D.length) → D = encI l.length ++ l.flatMap enc) ∧ Own c e H' b0 (.slice A l.length ca) l ∧ (∀ x ∈ l, Q x) ∧ (l.length : Int) ≤ m := by
  obtain ⟨hK, ⟨l, k', hc, hr, ho, hok⟩ | ⟨hc, hr, rfl⟩⟩ := h
  · obtain ⟨hc, hl⟩ := pList_canon hp hc
    obtain ⟨A, ca, rfl, -⟩ := ho.form
    refine ⟨hK, l, A, ca, false, k', rfl, hr, fun hn => ?_, ho, hok, hl⟩
    rw [List.drop_zero, List.drop_of_length_le (by omega), List.append_nil] at hc
    exact hc
  · exact ⟨hK, [], none, 0, true, 0, rfl, hr, fun hn => absurd (.inl rfl) hn, Own.nil _ _, by simp, by simpa using hm⟩
set_option maxRecDepth 100000 in
theorem encV_leW {v : Val} (h : OkW v) : (encV v).length ≤ 60 := by
  obtain ⟨⟨h1, h2, h3⟩, h4, h5⟩ := h
  have e1 := encI_length h1
  have e2 := encI_length h2
  have e3 := encI_length (P64_len h3)
  unfold encV
  rw [List.length_append]
  split
  · omega
  · split
    · unfold encBytes
      rw [List.length_append]
      change (encI (v.s.size : Int)).length ≤ 10 at e3
      change _ + ((encI (v.s.size : Int)).length + v.s.size) ≤ _
      omega
    · simp
      omega
set_option maxRecDepth 100000 in
theorem Own.other {α : Type} {c : El α} {e : TypeId} {base g : Nat} {v : Value} {l : List α} {H H1 H2 : Heap} (h : Own c e H base v l) (hx : Ext H H1) (hK : Keep [g] H1 H2) (hg : g < base ∨ H.size ≤ g) : Own c e H2 base v l :=
  (h.ext hx).keep hK fun b hb => by
    have := h.lt b hb
    simp
    omega
set_option maxRecDepth 100000 in
theorem opn_bytes (W : World) : Opn Try.prog W 29 1 (fun a : Option Addr × Nat × List UInt8 => [.slice a.1 a.2.2.length a.2.1]) (fun a => Rd eByte W.heap a.1 a.2.2 ∧ (∀ x ∈ a.2.2, True) ∧ a.2.2.length ≤ a.2.1 ∧ a.2.1 ≤ maxLen) := opn_slice (c := eByte) Try.underlying29 (by kernel_rfl) (opn_byte Try.underlying5 (by kernel_rfl))
set_option maxRecDepth 100000 in
theorem canonical_walk (A : Option Addr) (ca : Nat) (D : List UInt8) (H : Heap) (hA : Rd eByte H A D) :
    CallsH Try.prog 7 [.slice A D.length ca] H fun v H' => v = .bool true ∧ Ext H H' := by
  refine callsH_of Try.func7 rfl Try.ntmps7 (Nat.le_of_ble_eq_true rfl) ?_
  refine wpSeq fun F1 hF1 => ?_
  refine wpRegion ?_
  refine seqQ rfl rfl (yAssign (v := .bool _) rfl rfl) ?_
  refine seqNil ?_
  refine hF1 _ _ ?_; clear hF1
  refine wpSeq fun F2 hF2 => ?_
  refine wpSeq fun F3 hF3 => ?_
  refine wpRegion ?_
  -- e slot 9: call F8<farandole/farandolelaw01.awake> 
  refine seqE rfl rfl (stepCall rfl Try.call8 rfl ?_)
  refine (awake_c _).mono ?_
  rintro v H0 ⟨rfl, x0⟩
  refine seqQ rfl rfl (yNot rfl rfl) ?_
  refine seqNil ?_
  refine hF3 _ _ ?_; clear hF3
  -- if t10
  refine wpF rfl ?_
  refine wpSkip ?_
  refine hF2 _ _ ?_; clear hF2
  refine wpSeq fun F4 hF4 => ?_
  refine wpSeq fun F5 hF5 => ?_
  refine wpRegion ?_
  refine seqQ rfl rfl (yMove (v := .slice _ _ _) rfl rfl) ?_
  refine seqQ rfl rfl (yLen rfl Try.underlying29 rfl) ?_
  refine seqQ rfl rfl (yGtr rfl rfl rfl) ?_
  refine seqNil ?_
  refine hF5 _ _ ?_; clear hF5
  -- if t13
  refine wpIf rfl (fun hlen => ?_) (fun hlen => ?_)
  · skip
    refine wpSeq fun F6 hF6 => ?_
    refine wpRegion ?_
    refine seqQ rfl rfl (yAssign (v := .bool _) rfl rfl) ?_
    refine seqNil ?_
    refine hF6 _ _ ?_; clear hF6
    -- ret
    refine wpRet (fin1 (v := .bool _) rfl rfl ?_)
    exact ⟨rfl, x0⟩
  · skip
    have hl : D.length ≤ 600 := by omega
    refine wpSkip ?_
    refine hF4 _ _ ?_; clear hF4
    refine wpSeq fun F7 hF7 => ?_
    refine wpRegion ?_
    refine seqQ rfl rfl (yMove (v := .slice _ _ _) rfl rfl) ?_
    -- e slot 15: call F20<farandole/wire.New> t14
    refine seqE rfl rfl (stepCall rfl Try.call20 rfl ?_)
    refine (New_c A ca D H0 (hA.ext x0) (by omega)).mono ?_
    rintro v H1 ⟨x1, g1, B1, c1, rfl, hg1, r1, n1⟩
    refine seqQ rfl rfl (yMove (v := .slice _ _ _) rfl rfl) ?_
    -- e slot 17: call F20<farandole/wire.New> t16
    refine seqE rfl rfl (stepCall rfl Try.call20 rfl ?_)
    refine (New_c A ca D H1 ((hA.ext x0).ext x1) (by omega)).mono ?_
    rintro v H2 ⟨x2, g2, B2, c2, rfl, hg2, r2, n2⟩
    refine seqQ rfl rfl (yMove (v := .slice _ _ _) rfl rfl) ?_
    -- e slot 19: call F20<farandole/wire.New> t18
    refine seqE rfl rfl (stepCall rfl Try.call20 rfl ?_)
    refine (New_c A ca D H2 (((hA.ext x0).ext x1).ext x2) (by omega)).mono ?_
    rintro v H3 ⟨x3, g3, B3, c3, rfl, hg3, r3, n3⟩
    have hE : Ext H H3 := ((x0.trans x1).trans x2).trans x3
    have s0 := x0.size
    have s1 := x1.size
    have s2 := x2.size
    have s3 := x3.size
    have l1 := r1.blk.lt
    have l2 := r2.blk.lt
    have l3 := r3.blk.lt
    have m1 := r1.blt
    have m2 := r2.blt
    replace r1 := (r1.ext x2).ext x3
    replace r2 := r2.ext x3
    clear x1 x2 x3
    refine seqQ rfl rfl (yAssign (v := .pointer _) rfl rfl) ?_
    refine seqQ rfl rfl (yAssign (v := .pointer _) rfl rfl) ?_
    refine seqQ rfl rfl (yAssign (v := .pointer _) rfl rfl) ?_
    refine seqNil ?_
    refine hF7 _ _ ?_; clear hF7
    refine wpSeq fun F8 hF8 => ?_
    refine wpRegion ?_
    refine seqQ rfl rfl (yMove (v := .pointer _) rfl rfl) ?_
    -- e slot 21: call F34<(*farandole/wire.Reader).Event> t20
    refine seqE rfl rfl (stepCall rfl Try.call34 rfl ?_)
    refine (Event_c g1 B1 c1 D 0 false H3 r1).mono ?_
    rintro v Ha hp
    obtain ⟨hKa, x, Ax, cx, f1, k1, rfl, q1, hx, ox, okx⟩ := hp.evt
    have s4 := hKa.size
    clear hp
    replace r2 := r2.other hKa (by omega) (fun p e _ => by have := n2 p e; omega)
    replace r3 := r3.other hKa (by omega) (fun p e _ => by have := n3 p e; omega)
    replace hE := hE.mine hKa (by simp; omega)
    refine seqQ rfl rfl (yMove (v := .pointer _) rfl rfl) ?_
    -- e slot 23: call F23<(*farandole/wire.Reader).Ints> t22 [i:i64:600]
    refine seqE rfl rfl (stepCall rfl Try.call23 rfl ?_)
    refine (Ints_c g2 B2 c2 D 0 false 600 Ha r2 (by decide)).mono ?_
    rintro v Hb hp
    obtain ⟨hKb, li, Ai, ci, f2, k2, rfl, q2, hi, oi, oki, hli⟩ := PP.lst (fun _ _ _ h => (rdI_canon h).1) (by decide) hp
    have s5 := hKb.size
    replace q1 := q1.other hKb (by omega) (fun p e hn => by have := m1 p e hn; omega)
    replace r3 := r3.other hKb (by omega) (fun p e _ => by have := n3 p e; omega)
    replace ox := ox.other (Ext.refl _) hKb (.inl (by omega))
    replace hE := hE.mine hKb (by simp; omega)
    clear hp
    refine seqQ rfl rfl (yMove (v := .pointer _) rfl rfl) ?_
    -- e slot 25: call F32<(*farandole/wire.Reader).Values> t24 [i:i64:600]
    refine seqE rfl rfl (stepCall rfl Try.call32 rfl ?_)
    refine (Values_c g3 B3 c3 D 0 false 600 Hb r3 (by decide)).mono ?_
    rintro v Hc hp
    obtain ⟨hKc, lv, Av, cv, f3, k3, rfl, q3, hv, ov, okv, hlv⟩ := PP.lst (fun _ _ _ h => pVal_canon h) (by decide) hp
    have s6 := hKc.size
    clear hp
    replace q1 := q1.other hKc (by omega) (fun p e hn => by have := m1 p e hn; omega)
    replace q2 := q2.other hKc (by omega) (fun p e hn => by have := m2 p e hn; omega)
    replace ox := ox.other (Ext.refl _) hKc (.inl (by omega))
    replace oi := oi.other (Ext.refl _) hKc (.inl (by omega))
    replace hE := hE.mine hKc (by simp; omega)
    refine seqN rfl rfl (nAlloc rfl Try.zeroValue61 rfl) (fun g6 H6 hx6 hB6 hg6 hl6 => ?_)
    -- e slot None: store T61 t6 t21
    refine seqE0 rfl rfl (stepStoreB rfl (by kernel_rfl) rfl rfl rfl hB6 rfl ?_)
    intro Hd hBd hKd
    have x6 : Ext Hc Hd := hx6.mine hKd (by simp; omega)
    replace q1 := q1.ext x6
    replace q2 := q2.ext x6
    replace q3 := q3.ext x6
    replace ox := ox.ext x6
    replace oi := oi.ext x6
    replace ov := ov.ext x6
    replace hE := hE.trans x6
    have s7 := x6.size
    clear r1 r2 r3 hKa hKb hKc hKd hx6 hB6 n1 n2 n3 m1 m2 x0 x6
    refine seqQ rfl rfl (yAssign (v := .slice _ _ _) rfl rfl) ?_
    refine seqQ rfl rfl (yAssign (v := .slice _ _ _) rfl rfl) ?_
    refine seqNil ?_
    refine hF8 _ _ ?_; clear hF8
    refine wpSeq fun F9 hF9 => ?_
    refine wpSeq fun F10 hF10 => ?_
    refine wpRegion ?_
    refine seqQ rfl rfl (yMove (v := .pointer _) rfl rfl) ?_
    -- e slot 27: call F29<(*farandole/wire.Reader).End> t26
    refine seqE rfl rfl (stepCall rfl Try.call29 rfl ?_)
    refine (End_c g1 B1 c1 D k1 f1 Hd q1).mono ?_
    rintro v Hz ⟨rfl, e⟩
    obtain rfl := e.symm
    clear e
    by_cases e1 : f1 = true ∨ k1 < D.length
    · skip
      rw [if_pos e1]
      refine seqQ rfl rfl (yEql rfl rfl rfl) ?_
      refine seqQ rfl rfl (yMove (v := .bool false) rfl rfl) ?_
      refine seqU rfl rfl ?_
      refine seqU rfl rfl ?_
      refine seqU rfl rfl ?_
      refine seqU rfl rfl ?_
      refine seqU rfl rfl ?_
      refine seqQ rfl rfl (yPickF (v := .bool _) rfl rfl rfl) ?_
      refine seqNil ?_
      refine hF10 _ _ ?_; clear hF10
      -- if t35
      refine wpF rfl ?_
      refine wpSkip ?_
      refine hF9 _ _ ?_; clear hF9
      refine wpSeq fun F11 hF11 => ?_
      refine wpRegion ?_
      refine seqQ rfl rfl (yMove (v := .pointer _) rfl rfl) ?_
      -- e slot 37: call F29<(*farandole/wire.Reader).End> t36
      refine seqE rfl rfl (stepCall rfl Try.call29 rfl ?_)
      refine (End_c g2 B2 c2 D k2 f2 Hd (q2.ext (Ext.refl Hd))).mono ?_
      rintro v Hz ⟨rfl, e⟩
      obtain rfl := e.symm
      clear e
      by_cases e2 : f2 = true ∨ k2 < D.length
      · skip
        rw [if_pos e2]
        refine seqQ rfl rfl (yNeq rfl rfl rfl) ?_
        refine seqQ rfl rfl (yMove (v := .bool true) rfl rfl) ?_
        refine seqU rfl rfl ?_
        refine seqU rfl rfl ?_
        refine seqU rfl rfl ?_
        refine seqU rfl rfl ?_
        refine seqQ rfl rfl (yPickT (v := .bool _) rfl rfl rfl) ?_
        refine seqQ rfl rfl (yMove (v := .bool true) rfl rfl) ?_
        refine seqQ rfl rfl (yMove (v := .pointer _) rfl rfl) ?_
        -- e slot 47: call F29<(*farandole/wire.Reader).End> t46
        refine seqE rfl rfl (stepCall rfl Try.call29 rfl ?_)
        refine (End_c g3 B3 c3 D k3 f3 Hd (q3.ext (Ext.refl Hd))).mono ?_
        rintro v Hz ⟨rfl, e⟩
        obtain rfl := e.symm
        clear e
        by_cases e3 : f3 = true ∨ k3 < D.length
        · skip
          rw [if_pos e3]
          refine seqQ rfl rfl (yNeq rfl rfl rfl) ?_
          refine seqQ rfl rfl (yMove (v := .bool true) rfl rfl) ?_
          refine seqU rfl rfl ?_
          refine seqU rfl rfl ?_
          refine seqU rfl rfl ?_
          refine seqU rfl rfl ?_
          refine seqQ rfl rfl (yPickT (v := .bool _) rfl rfl rfl) ?_
          refine seqQ rfl rfl (yPickT (v := .bool _) rfl rfl rfl) ?_
          refine seqQ rfl rfl (yAssign (v := .bool _) rfl rfl) ?_
          refine seqNil ?_
          refine hF11 _ _ ?_; clear hF11
          -- ret
          refine wpRet (fin1 (v := .bool _) rfl rfl ?_)
          exact ⟨rfl, hE.trans (Ext.refl Hd)⟩
        · skip
          rw [if_neg e3]
          refine seqQ rfl rfl (yNeq rfl rfl rfl) ?_
          refine seqQ rfl rfl (yMove (v := .bool false) rfl rfl) ?_
          refine seqQ rfl rfl (yMove (v := .slice _ _ _) rfl rfl) ?_
          -- e slot 51: call F14<farandole/wire.Values> [nilslice:0:0] t50
          refine seqE rfl rfl (stepCall rfl Try.call14 rfl ?_)
          refine (valuesM_c 60 (.slice none 0 0) Av cv lv (Hd).size [] Hd (Nat.le_refl _) (Own.nil _ _) (RdM.of ((Own.rd ov).2.ext (Ext.refl Hd)) (fun p e hm => by simp [Value.ownBlock] at hm)) (fun y hy => (okv y hy).1) (by simp) (by omega) (fun y hy => encV_leW (okv y hy)) (by omega)).mono ?_
          rintro v Hk ⟨ho, hg⟩
          have xk : Ext Hd Hk := hg.ext (Ext.refl _) (by intro g e; cases e)
          rw [List.nil_append, show encVals lv = D from (hv e3).symm] at ho
          obtain ⟨Ak, ck, rfl, -, hr, -⟩ := ho.form
          refine seqQ rfl rfl (yMove (v := .slice _ _ _) rfl rfl) ?_
          -- e slot 53: call F10<farandole/farandoleref01.Same> t51 t52
          refine seqE rfl rfl (stepCall rfl Try.call10 rfl ?_)
          refine (Same_c Ak A D D ck ca Hk hr (hA.ext ((hE.trans (Ext.refl Hd)).trans xk))).mono ?_
          rintro v Hz ⟨hv0, e⟩
          obtain rfl : v = .bool true := hv0.trans (by simp)
          obtain rfl := e.symm
          clear e
          refine seqQ rfl rfl (yPickF (v := .bool _) rfl rfl rfl) ?_
          refine seqQ rfl rfl (yPickT (v := .bool _) rfl rfl rfl) ?_
          refine seqQ rfl rfl (yAssign (v := .bool _) rfl rfl) ?_
          refine seqNil ?_
          refine hF11 _ _ ?_; clear hF11
          -- ret
          refine wpRet (fin1 (v := .bool _) rfl rfl ?_)
          exact ⟨rfl, (hE.trans (Ext.refl Hd)).trans xk⟩
      · skip
        rw [if_neg e2]
        refine seqQ rfl rfl (yNeq rfl rfl rfl) ?_
        refine seqQ rfl rfl (yMove (v := .bool false) rfl rfl) ?_
        refine seqQ rfl rfl (yMove (v := .slice _ _ _) rfl rfl) ?_
        -- e slot 41: call F17<farandole/wire.Ints> [nilslice:0:0] t40
        refine seqE rfl rfl (stepCall rfl Try.call17 rfl ?_)
        refine (ints_c (.slice none 0 0) Ai ci li (Hd).size [] Hd (Nat.le_refl _) (Own.nil _ _) ((Own.rd oi).2.ext (Ext.refl Hd)) (fun p e => by
          subst e
          have := (oi.lt p.block rfl).2
          have := ((Ext.refl Hd)).size
          omega) oki (by simp) (by omega)).mono ?_
        rintro v Hj ⟨ho, hg⟩
        have xj : Ext Hd Hj := hg.ext (Ext.refl _) (by intro g e; cases e)
        rw [List.nil_append, show encInts li = D from (hi e2).symm] at ho
        obtain ⟨Aj, cj, rfl, -, hr, -⟩ := ho.form
        refine seqQ rfl rfl (yMove (v := .slice _ _ _) rfl rfl) ?_
        -- e slot 43: call F10<farandole/farandoleref01.Same> t41 t42
        refine seqE rfl rfl (stepCall rfl Try.call10 rfl ?_)
        refine (Same_c Aj A D D cj ca Hj hr (hA.ext ((hE.trans (Ext.refl Hd)).trans xj))).mono ?_
        rintro v Hz ⟨hv0, e⟩
        obtain rfl : v = .bool true := hv0.trans (by simp)
        obtain rfl := e.symm
        clear e
        refine seqQ rfl rfl (yPickF (v := .bool _) rfl rfl rfl) ?_
        refine seqQ rfl rfl (yMove (v := .bool true) rfl rfl) ?_
        refine seqQ rfl rfl (yMove (v := .pointer _) rfl rfl) ?_
        -- e slot 47: call F29<(*farandole/wire.Reader).End> t46
        refine seqE rfl rfl (stepCall rfl Try.call29 rfl ?_)
        refine (End_c g3 B3 c3 D k3 f3 Hj (q3.ext (Ext.trans (Ext.refl Hd) xj))).mono ?_
        rintro v Hz ⟨rfl, e⟩
        obtain rfl := e.symm
        clear e
        by_cases e3 : f3 = true ∨ k3 < D.length
        · skip
          rw [if_pos e3]
          refine seqQ rfl rfl (yNeq rfl rfl rfl) ?_
          refine seqQ rfl rfl (yMove (v := .bool true) rfl rfl) ?_
          refine seqU rfl rfl ?_
          refine seqU rfl rfl ?_
          refine seqU rfl rfl ?_
          refine seqU rfl rfl ?_
          refine seqQ rfl rfl (yPickT (v := .bool _) rfl rfl rfl) ?_
          refine seqQ rfl rfl (yPickT (v := .bool _) rfl rfl rfl) ?_
          refine seqQ rfl rfl (yAssign (v := .bool _) rfl rfl) ?_
          refine seqNil ?_
          refine hF11 _ _ ?_; clear hF11
          -- ret
          refine wpRet (fin1 (v := .bool _) rfl rfl ?_)
          exact ⟨rfl, hE.trans (Ext.trans (Ext.refl Hd) xj)⟩
        · skip
          rw [if_neg e3]
          refine seqQ rfl rfl (yNeq rfl rfl rfl) ?_
          refine seqQ rfl rfl (yMove (v := .bool false) rfl rfl) ?_
          refine seqQ rfl rfl (yMove (v := .slice _ _ _) rfl rfl) ?_
          -- e slot 51: call F14<farandole/wire.Values> [nilslice:0:0] t50
          refine seqE rfl rfl (stepCall rfl Try.call14 rfl ?_)
          refine (valuesM_c 60 (.slice none 0 0) Av cv lv (Hj).size [] Hj (Nat.le_refl _) (Own.nil _ _) (RdM.of ((Own.rd ov).2.ext (Ext.trans (Ext.refl Hd) xj)) (fun p e hm => by simp [Value.ownBlock] at hm)) (fun y hy => (okv y hy).1) (by simp) (by omega) (fun y hy => encV_leW (okv y hy)) (by omega)).mono ?_
          rintro v Hk ⟨ho, hg⟩
          have xk : Ext Hj Hk := hg.ext (Ext.refl _) (by intro g e; cases e)
          rw [List.nil_append, show encVals lv = D from (hv e3).symm] at ho
          obtain ⟨Ak, ck, rfl, -, hr, -⟩ := ho.form
          refine seqQ rfl rfl (yMove (v := .slice _ _ _) rfl rfl) ?_
          -- e slot 53: call F10<farandole/farandoleref01.Same> t51 t52
          refine seqE rfl rfl (stepCall rfl Try.call10 rfl ?_)
          refine (Same_c Ak A D D ck ca Hk hr (hA.ext ((hE.trans (Ext.trans (Ext.refl Hd) xj)).trans xk))).mono ?_
          rintro v Hz ⟨hv0, e⟩
          obtain rfl : v = .bool true := hv0.trans (by simp)
          obtain rfl := e.symm
          clear e
          refine seqQ rfl rfl (yPickF (v := .bool _) rfl rfl rfl) ?_
          refine seqQ rfl rfl (yPickT (v := .bool _) rfl rfl rfl) ?_
          refine seqQ rfl rfl (yAssign (v := .bool _) rfl rfl) ?_
          refine seqNil ?_
          refine hF11 _ _ ?_; clear hF11
          -- ret
          refine wpRet (fin1 (v := .bool _) rfl rfl ?_)
          exact ⟨rfl, (hE.trans (Ext.trans (Ext.refl Hd) xj)).trans xk⟩
    · skip
      rw [if_neg e1]
      refine seqQ rfl rfl (yEql rfl rfl rfl) ?_
      refine seqQ rfl rfl (yMove (v := .bool true) rfl rfl) ?_
      refine seqQ rfl rfl (yLoadB hBd rfl Try.underlying61 rfl Try.sizeOf61 rfl) ?_
      -- e slot 31: call F35<farandole/wire.Event> [nilslice:0:0] t30
      refine seqE rfl rfl (stepCall rfl Try.call35 rfl ?_)
      refine (event_c (.slice none 0 0) Ax cx x Hd.size [] Hd (Nat.le_refl _) (Own.nil _ _) (RdM.of (Own.rd ox).2 (fun p e hm => by simp [Value.ownBlock] at hm)) ⟨okx.1, okx.2.1, okx.2.2.1, fun y hy => (okx.2.2.2.1 y hy).1, by have := okx.2.2.2.2; omega⟩ (by simp)).mono ?_
      rintro v Hi ⟨ho, hg⟩
      have xi : Ext Hd Hi := hg.ext (Ext.refl _) (by intro g e; cases e)
      rw [List.nil_append, show encE x = D from (hx e1).symm] at ho
      obtain ⟨Aj, cj, rfl, -, hr, -⟩ := ho.form
      refine seqQ rfl rfl (yMove (v := .slice _ _ _) rfl rfl) ?_
      -- e slot 33: call F10<farandole/farandoleref01.Same> t31 t32
      refine seqE rfl rfl (stepCall rfl Try.call10 rfl ?_)
      refine (Same_c Aj A D D cj ca Hi hr (hA.ext (hE.trans xi))).mono ?_
      rintro v Hz ⟨hv0, e⟩
      obtain rfl : v = .bool true := hv0.trans (by simp)
      obtain rfl := e.symm
      clear e
      refine seqQ rfl rfl (yNot rfl rfl) ?_
      refine seqQ rfl rfl (yPickT (v := .bool _) rfl rfl rfl) ?_
      refine seqNil ?_
      refine hF10 _ _ ?_; clear hF10
      -- if t35
      refine wpF rfl ?_
      refine wpSkip ?_
      refine hF9 _ _ ?_; clear hF9
      refine wpSeq fun F12 hF12 => ?_
      refine wpRegion ?_
      refine seqQ rfl rfl (yMove (v := .pointer _) rfl rfl) ?_
      -- e slot 37: call F29<(*farandole/wire.Reader).End> t36
      refine seqE rfl rfl (stepCall rfl Try.call29 rfl ?_)
      refine (End_c g2 B2 c2 D k2 f2 Hi (q2.ext xi)).mono ?_
      rintro v Hz ⟨rfl, e⟩
      obtain rfl := e.symm
      clear e
      by_cases e2 : f2 = true ∨ k2 < D.length
      · skip
        rw [if_pos e2]
        refine seqQ rfl rfl (yNeq rfl rfl rfl) ?_
        refine seqQ rfl rfl (yMove (v := .bool true) rfl rfl) ?_
        refine seqU rfl rfl ?_
        refine seqU rfl rfl ?_
        refine seqU rfl rfl ?_
        refine seqU rfl rfl ?_
        refine seqQ rfl rfl (yPickT (v := .bool _) rfl rfl rfl) ?_
        refine seqQ rfl rfl (yMove (v := .bool true) rfl rfl) ?_
        refine seqQ rfl rfl (yMove (v := .pointer _) rfl rfl) ?_
        -- e slot 47: call F29<(*farandole/wire.Reader).End> t46
        refine seqE rfl rfl (stepCall rfl Try.call29 rfl ?_)
        refine (End_c g3 B3 c3 D k3 f3 Hi (q3.ext xi)).mono ?_
        rintro v Hz ⟨rfl, e⟩
        obtain rfl := e.symm
        clear e
        by_cases e3 : f3 = true ∨ k3 < D.length
        · skip
          rw [if_pos e3]
          refine seqQ rfl rfl (yNeq rfl rfl rfl) ?_
          refine seqQ rfl rfl (yMove (v := .bool true) rfl rfl) ?_
          refine seqU rfl rfl ?_
          refine seqU rfl rfl ?_
          refine seqU rfl rfl ?_
          refine seqU rfl rfl ?_
          refine seqQ rfl rfl (yPickT (v := .bool _) rfl rfl rfl) ?_
          refine seqQ rfl rfl (yPickT (v := .bool _) rfl rfl rfl) ?_
          refine seqQ rfl rfl (yAssign (v := .bool _) rfl rfl) ?_
          refine seqNil ?_
          refine hF12 _ _ ?_; clear hF12
          -- ret
          refine wpRet (fin1 (v := .bool _) rfl rfl ?_)
          exact ⟨rfl, hE.trans xi⟩
        · skip
          rw [if_neg e3]
          refine seqQ rfl rfl (yNeq rfl rfl rfl) ?_
          refine seqQ rfl rfl (yMove (v := .bool false) rfl rfl) ?_
          refine seqQ rfl rfl (yMove (v := .slice _ _ _) rfl rfl) ?_
          -- e slot 51: call F14<farandole/wire.Values> [nilslice:0:0] t50
          refine seqE rfl rfl (stepCall rfl Try.call14 rfl ?_)
          refine (valuesM_c 60 (.slice none 0 0) Av cv lv (Hi).size [] Hi (Nat.le_refl _) (Own.nil _ _) (RdM.of ((Own.rd ov).2.ext xi) (fun p e hm => by simp [Value.ownBlock] at hm)) (fun y hy => (okv y hy).1) (by simp) (by omega) (fun y hy => encV_leW (okv y hy)) (by omega)).mono ?_
          rintro v Hk ⟨ho, hg⟩
          have xk : Ext Hi Hk := hg.ext (Ext.refl _) (by intro g e; cases e)
          rw [List.nil_append, show encVals lv = D from (hv e3).symm] at ho
          obtain ⟨Ak, ck, rfl, -, hr, -⟩ := ho.form
          refine seqQ rfl rfl (yMove (v := .slice _ _ _) rfl rfl) ?_
          -- e slot 53: call F10<farandole/farandoleref01.Same> t51 t52
          refine seqE rfl rfl (stepCall rfl Try.call10 rfl ?_)
          refine (Same_c Ak A D D ck ca Hk hr (hA.ext ((hE.trans xi).trans xk))).mono ?_
          rintro v Hz ⟨hv0, e⟩
          obtain rfl : v = .bool true := hv0.trans (by simp)
          obtain rfl := e.symm
          clear e
          refine seqQ rfl rfl (yPickF (v := .bool _) rfl rfl rfl) ?_
          refine seqQ rfl rfl (yPickT (v := .bool _) rfl rfl rfl) ?_
          refine seqQ rfl rfl (yAssign (v := .bool _) rfl rfl) ?_
          refine seqNil ?_
          refine hF12 _ _ ?_; clear hF12
          -- ret
          refine wpRet (fin1 (v := .bool _) rfl rfl ?_)
          exact ⟨rfl, (hE.trans xi).trans xk⟩
      · skip
        rw [if_neg e2]
        refine seqQ rfl rfl (yNeq rfl rfl rfl) ?_
        refine seqQ rfl rfl (yMove (v := .bool false) rfl rfl) ?_
        refine seqQ rfl rfl (yMove (v := .slice _ _ _) rfl rfl) ?_
        -- e slot 41: call F17<farandole/wire.Ints> [nilslice:0:0] t40
        refine seqE rfl rfl (stepCall rfl Try.call17 rfl ?_)
        refine (ints_c (.slice none 0 0) Ai ci li (Hi).size [] Hi (Nat.le_refl _) (Own.nil _ _) ((Own.rd oi).2.ext xi) (fun p e => by
          subst e
          have := (oi.lt p.block rfl).2
          have := (xi).size
          omega) oki (by simp) (by omega)).mono ?_
        rintro v Hj ⟨ho, hg⟩
        have xj : Ext Hi Hj := hg.ext (Ext.refl _) (by intro g e; cases e)
        rw [List.nil_append, show encInts li = D from (hi e2).symm] at ho
        obtain ⟨Aj, cj, rfl, -, hr, -⟩ := ho.form
        refine seqQ rfl rfl (yMove (v := .slice _ _ _) rfl rfl) ?_
        -- e slot 43: call F10<farandole/farandoleref01.Same> t41 t42
        refine seqE rfl rfl (stepCall rfl Try.call10 rfl ?_)
        refine (Same_c Aj A D D cj ca Hj hr (hA.ext ((hE.trans xi).trans xj))).mono ?_
        rintro v Hz ⟨hv0, e⟩
        obtain rfl : v = .bool true := hv0.trans (by simp)
        obtain rfl := e.symm
        clear e
        refine seqQ rfl rfl (yPickF (v := .bool _) rfl rfl rfl) ?_
        refine seqQ rfl rfl (yMove (v := .bool true) rfl rfl) ?_
        refine seqQ rfl rfl (yMove (v := .pointer _) rfl rfl) ?_
        -- e slot 47: call F29<(*farandole/wire.Reader).End> t46
        refine seqE rfl rfl (stepCall rfl Try.call29 rfl ?_)
        refine (End_c g3 B3 c3 D k3 f3 Hj (q3.ext (Ext.trans xi xj))).mono ?_
        rintro v Hz ⟨rfl, e⟩
        obtain rfl := e.symm
        clear e
        by_cases e3 : f3 = true ∨ k3 < D.length
        · skip
          rw [if_pos e3]
          refine seqQ rfl rfl (yNeq rfl rfl rfl) ?_
          refine seqQ rfl rfl (yMove (v := .bool true) rfl rfl) ?_
          refine seqU rfl rfl ?_
          refine seqU rfl rfl ?_
          refine seqU rfl rfl ?_
          refine seqU rfl rfl ?_
          refine seqQ rfl rfl (yPickT (v := .bool _) rfl rfl rfl) ?_
          refine seqQ rfl rfl (yPickT (v := .bool _) rfl rfl rfl) ?_
          refine seqQ rfl rfl (yAssign (v := .bool _) rfl rfl) ?_
          refine seqNil ?_
          refine hF12 _ _ ?_; clear hF12
          -- ret
          refine wpRet (fin1 (v := .bool _) rfl rfl ?_)
          exact ⟨rfl, hE.trans (Ext.trans xi xj)⟩
        · skip
          rw [if_neg e3]
          refine seqQ rfl rfl (yNeq rfl rfl rfl) ?_
          refine seqQ rfl rfl (yMove (v := .bool false) rfl rfl) ?_
          refine seqQ rfl rfl (yMove (v := .slice _ _ _) rfl rfl) ?_
          -- e slot 51: call F14<farandole/wire.Values> [nilslice:0:0] t50
          refine seqE rfl rfl (stepCall rfl Try.call14 rfl ?_)
          refine (valuesM_c 60 (.slice none 0 0) Av cv lv (Hj).size [] Hj (Nat.le_refl _) (Own.nil _ _) (RdM.of ((Own.rd ov).2.ext (Ext.trans xi xj)) (fun p e hm => by simp [Value.ownBlock] at hm)) (fun y hy => (okv y hy).1) (by simp) (by omega) (fun y hy => encV_leW (okv y hy)) (by omega)).mono ?_
          rintro v Hk ⟨ho, hg⟩
          have xk : Ext Hj Hk := hg.ext (Ext.refl _) (by intro g e; cases e)
          rw [List.nil_append, show encVals lv = D from (hv e3).symm] at ho
          obtain ⟨Ak, ck, rfl, -, hr, -⟩ := ho.form
          refine seqQ rfl rfl (yMove (v := .slice _ _ _) rfl rfl) ?_
          -- e slot 53: call F10<farandole/farandoleref01.Same> t51 t52
          refine seqE rfl rfl (stepCall rfl Try.call10 rfl ?_)
          refine (Same_c Ak A D D ck ca Hk hr (hA.ext ((hE.trans (Ext.trans xi xj)).trans xk))).mono ?_
          rintro v Hz ⟨hv0, e⟩
          obtain rfl : v = .bool true := hv0.trans (by simp)
          obtain rfl := e.symm
          clear e
          refine seqQ rfl rfl (yPickF (v := .bool _) rfl rfl rfl) ?_
          refine seqQ rfl rfl (yPickT (v := .bool _) rfl rfl rfl) ?_
          refine seqQ rfl rfl (yAssign (v := .bool _) rfl rfl) ?_
          refine seqNil ?_
          refine hF12 _ _ ?_; clear hF12
          -- ret
          refine wpRet (fin1 (v := .bool _) rfl rfl ?_)
          exact ⟨rfl, (hE.trans (Ext.trans xi xj)).trans xk⟩
set_option maxRecDepth 100000 in
set_option maxRecDepth 100000 in
theorem wireCanonical_lifted (os : Os) (started : os.Started) (H : Type) (enc : TypeId × Value → H) :
    ReturnsInHanded {} Try.checked os 7 .any (Rows.wireCanonicalSpec.pre6 enc Try.prog Try.f7 Rows.wireCanonicalRow.domain false) (Rows.wireCanonicalSpec.post enc Try.prog Try.f7 false true false false) := by
  refine law_lifted started Rows.wireCanonicalSpec rfl (by kernel_rfl) Try.func7 rfl
    (fun ds h => by match ds, h with | [_], _ => rfl) (of_decide_eq_true (by kernel_rfl))
    (ChangeSpec.witness6 (enc := enc) (C := Try.checked) false ⟨#[], #[.slice none 0 0], []⟩ 8 (by kernel_rfl) (by kernel_rfl) (by kernel_rfl) (by kernel_rfl)) ?_
  intro W base args ds p hval hA
  rw [Try.params7] at hA hval
  obtain ⟨v0, d0, rfl, rfl, h0⟩ := trodAll_one hA
  have g0 := hval 0 _ v0 rfl rfl
  obtain ⟨⟨A, ca, D⟩, rfl, kA, -⟩ := (opn_bytes W).one (one_slice Try.underlying29 g0) h0
  exact canonical_walk A ca D W.heap kA
set_option maxRecDepth 100000 in
theorem wireCanonical_holds : Rows.WireCanonicalSaid :=
  OpenClaim.holds_of_wide 7 Try.f7 rfl rfl rfl rfl rfl rfl rfl ⟨rfl, rfl, rfl, rfl, rfl⟩ rfl rfl rfl rfl rfl (by kernel_rfl) Try.func7 (by kernel_rfl)
    (of_decide_eq_true (by kernel_rfl)) (by unfold Func.isWrapper; first | (rw [if_pos (by decide +kernel)]; kernel_rfl) | (rw [if_neg (by decide +kernel)]; exact ⟨rfl, rfl⟩))
    (fun os started H enc _ => wireCanonical_lifted os started H enc)
end Go.Proofs.Ytnccbnjjnijbhaa
