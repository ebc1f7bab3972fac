/- Logs: decoded and encoded. -/
import Derived.Test.YtbanngdijmglbaaN12
import Derived.Test.YtbanngdijmglbaaM8
import Derived.Test.YtbanngdijmglbaaW10
namespace Go.Proofs.Ytbanngdijmglbaa
open Go.RowKit

def pEnt (b : List UInt8) : Option (Ent × List UInt8) := (pEvt b).bind fun x => (pList rdI 6 x.2).map fun y => ((⟨x.1, y.1⟩ : Ent), y.2)
def OkEn (e : Ent) : Prop := OkE e.ev ∧ (∀ c ∈ e.clk, P64 c) ∧ e.clk.length ≤ 6
def decL (b : List UInt8) : Int × List Ent := match pList pEnt 1000 b with
  | some (l, []) => (0, l)
  | _ => (4, [])
def encEn (e : Ent) : List UInt8 := encE e.ev ++ encInts e.clk
def encL (l : List Ent) : List UInt8 := encI l.length ++ l.flatMap encEn
set_option maxRecDepth 100000 in
theorem pEnt_canon (b : List UInt8) (x : Ent) (r : List UInt8) (h : pEnt b = some (x, r)) : b = encEn x ++ r := by
  unfold pEnt at h
  obtain ⟨⟨e, s⟩, h1, h2⟩ := Option.bind_eq_some_iff.1 h
  obtain ⟨⟨c, t⟩, h3, h4⟩ := Option.map_eq_some_iff.1 h2
  obtain ⟨rfl, rfl⟩ := Prod.mk.inj h4
  have e1 := pEvt_canon h1
  have e2 := (pList_canon (e := encI) (fun b x r h => (rdI_canon h).1) h3).1
  dsimp only at e1 e2
  rw [e1, e2]
  unfold encEn encInts
  simp
set_option maxRecDepth 100000 in
theorem decL_canon {b : List UInt8} (h : (decL b).1 = 0) : encL (decL b).2 = b := by
  unfold decL at h ⊢
  split at h
  · rename_i l e
    have := (pList_canon (e := encEn) pEnt_canon e).1
    rw [List.append_nil] at this
    exact this.symm
  · cases h
/-- The entries in work: i of n have been read. -/
def PNs (n : Nat) (D1 D : List UInt8) (i : Nat) (l : List Ent) (k : Nat) (f : Bool) : Prop := l.length = i ∧ (f = false → pN pEnt n D1 = ((pN pEnt (n - i) (D.drop k)).map fun y => (l ++ y.1, y.2)) ∧ ∀ e ∈ l, OkEn e) ∧ (f = true → pN pEnt n D1 = none)
set_option maxRecDepth 100000 in
theorem PNs.zero (n : Nat) (D : List UInt8) (k : Nat) : PNs n (D.drop k) D 0 [] k false := ⟨rfl, fun _ => ⟨by simp, fun e h => by cases h⟩, fun h => by cases h⟩
set_option maxRecDepth 100000 in
theorem PNs.step {n : Nat} {D1 D : List UInt8} {i : Nat} {l : List Ent} {k k1 k2 : Nat} {f f1 f2 : Bool} {x : Evt} {cl : List Int} (h : PNs n D1 D i l k f) (hi : i < n) (he : prs pEvt f D k = bif f1 then none else some (x, D.drop k1)) (hc : prs (pList rdI 6) f1 D k1 = bif f2 then none else some (cl, D.drop k2))
    (ok : f1 = false → OkE x) (okc : f2 = false → ∀ c ∈ cl, P64 c) : PNs n D1 D (i + 1) (l ++ [⟨x, cl⟩]) k2 f2 := by
  obtain ⟨h1, h2, h3⟩ := h
  refine ⟨by rw [List.length_append, h1]; rfl, ?_, ?_⟩
  · intro e2
    subst e2
    cases f1 with
    | true => cases hc
    | false =>
      cases f with
      | true => cases he
      | false =>
        rw [prs_f] at he hc
        simp only [cond_false] at he hc
        obtain ⟨h4, h5⟩ := h2 rfl
        have hp : pEnt (D.drop k) = some (⟨x, cl⟩, D.drop k2) := by
          unfold pEnt
          rw [he, Option.bind_some]
          dsimp only
          rw [hc]
          rfl
        refine ⟨?_, fun e hm => ?_⟩
        · rw [h4, show n - i = (n - (i + 1)) + 1 by omega, pN_step hp]
        · rcases List.mem_append.1 hm with hm | hm
          · exact h5 e hm
          · rw [List.mem_singleton.1 hm]
            have := pList_le hc
            exact ⟨ok rfl, okc rfl, by dsimp only; omega⟩
  · intro e2
    subst e2
    cases f with
    | true => exact h3 rfl
    | false =>
      obtain ⟨h4, h5⟩ := h2 rfl
      rw [h4, show n - i = (n - (i + 1)) + 1 by omega]
      refine pN_stop ?_ l
      rw [prs_f] at he
      unfold pEnt
      cases f1 with
      | true =>
        simp only [cond_true] at he
        rw [he]
        rfl
      | false =>
        simp only [cond_false] at he
        rw [prs_f] at hc
        simp only [cond_true] at hc
        rw [he, Option.bind_some]
        dsimp only
        rw [hc]
        rfl
set_option maxRecDepth 100000 in
theorem PNs.fin {n : Nat} {D : List UInt8} {l : List Ent} {k k1 i : Nat} {f : Bool} (h : PNs n (D.drop k1) D i l k f) (hi : f = false → i = n) (hb : pBnd 0 1000 D = some ((n : Int), D.drop k1)) : decL D = (if f = true ∨ k < D.length then (4, []) else (0, l)) ∧ (f = false → ∀ e ∈ l, OkEn e) := by
  obtain ⟨h1, h2, h3⟩ := h
  refine ⟨?_, fun e => (h2 e).2⟩
  unfold decL pList
  rw [hb, Option.bind_some]
  dsimp only
  rw [Int.toNat_natCast]
  cases f with
  | true => rw [h3 rfl, if_pos (.inl rfl)]
  | false =>
    rw [(h2 rfl).1, hi rfl, Nat.sub_self]
    simp only [pN, Option.map_some, List.append_nil]
    by_cases hk : k < D.length
    · rw [if_pos (.inr hk), List.drop_eq_getElem_cons hk]
    · rw [if_neg (by simp; omega), List.drop_of_length_le (by omega)]
set_option maxRecDepth 100000 in
theorem PP.evF {g : Nat} {B : Option Addr} {cB : Nat} {D : List UInt8} {k : Nat} {f : Bool} {H H' : Heap} {v : Value} (h : PP pEvt (VE H.size) (.agg (evC ev0 none 0).toArray) g B cB D k f H v H') :
    Keep [g] H H' ∧ ∃ x A c f' k', v = .agg (evC x A c).toArray ∧ Rdr H' g B cB D k' f' ∧ Own eWV 88 H' H.size (.slice A x.values.length c) x.values ∧ (prs pEvt f D k = bif f' then none else some (x, D.drop k')) ∧ (f' = false → OkE x) := by
  obtain ⟨hK, ⟨a, k', hp, hr, ⟨A, c, rfl, ho⟩, hok⟩ | ⟨hp, hr, rfl⟩⟩ := h
  · exact ⟨hK, a, A, c, false, k', rfl, hr, ho, hp, fun _ => hok⟩
  · exact ⟨hK, ev0, none, 0, true, k, rfl, hr, Own.nil _ _, hp, fun h => by cases h⟩
set_option maxRecDepth 100000 in
theorem PP.inF {g : Nat} {B : Option Addr} {cB : Nat} {D : List UInt8} {k : Nat} {f : Bool} {H H' : Heap} {v : Value} (h : PP (pList rdI 6) (VL eInt 3 H.size P64) (.slice none 0 0) g B cB D k f H v H') :
    Keep [g] H H' ∧ ∃ cl A c f' k', v = .slice A (List.length (α := Int) cl) c ∧ Rdr H' g B cB D k' f' ∧ Own eInt 3 H' H.size (.slice A cl.length c) cl ∧ (prs (pList rdI 6) f D k = bif f' then none else some (cl, D.drop k')) ∧ (f' = false → ∀ c ∈ cl, P64 c) := by
  obtain ⟨hK, ⟨a, k', hp, hr, ho, hq⟩ | ⟨hp, hr, rfl⟩⟩ := h
  · obtain ⟨A, c, rfl, -⟩ := ho.form
    exact ⟨hK, a, A, c, false, k', rfl, hr, ho, hp, fun _ => hq⟩
  · exact ⟨hK, [], none, 0, true, k, rfl, hr, Own.nil _ _, hp, fun h => by cases h⟩
set_option maxRecDepth 100000 in
theorem RL.inF {g : Nat} {B : Option Addr} {cB : Nat} {D : List UInt8} {k : Nat} {f : Bool} {H H' : Heap} {v : Value} (h : RL rdI 6 eInt 3 P64 g B cB D k f H v H') :
    Keep [g] H H' ∧ ∃ cl A c f' k', v = .slice A (List.length (α := Int) cl) c ∧ RRd H' g B cB D k' f' ∧ Own eInt 3 H' H.size (.slice A cl.length c) cl ∧ (prs (pList rdI 6) f D k = bif f' then none else some (cl, D.drop k')) ∧ (f' = false → ∀ c ∈ cl, P64 c) := by
  obtain ⟨hK, cl, A, c, f', k', rfl, hr, ho, hd⟩ := h
  refine ⟨hK, cl, A, c, f', k', rfl, hr, ho, bif_of (hd.imp id fun h => ⟨h.1, h.2.1⟩), fun e => ?_⟩
  rcases hd with ⟨h', _⟩ | ⟨-, -, hq⟩
  · rw [e] at h'; cases h'
  · exact hq
set_option maxRecDepth 100000 in
theorem Rdr.newM {H H' : Heap} {g : Nat} {M : List Nat} {B : Option Addr} {cB : Nat} {D : List UInt8} {k k0 : Nat} {f f0 : Bool} {H0 : Heap} (h : Rdr H g B cB D k f) (h0 : Rdr H0 g B cB D k0 f0) (hK : Keep M H H') (hg : ∀ b ∈ M, H0.size ≤ b) : Rdr H' g B cB D k f := by
  have l := h0.blk.lt
  refine ⟨h.blk.keep hK (fun hm => by have := hg _ hm; omega), fun hn => ?_, h.le, h.cap, h.few⟩
  obtain ⟨p, e, hm, hc⟩ := h.rd hn
  obtain ⟨q, eq, hq⟩ := h0.rd.rd.lt (List.length_pos_iff.2 hn)
  rw [e] at eq
  obtain rfl := Option.some.inj eq
  exact ⟨p, e, hm, fun j u hu => hK.cell (hc j u hu) (by rw [block_of_add]; intro hm2; have := hg _ hm2; omega)⟩
set_option maxRecDepth 100000 in
theorem RRd.newM {H H' : Heap} {g : Nat} {M : List Nat} {B : Option Addr} {cB : Nat} {D : List UInt8} {k k0 : Nat} {f f0 : Bool} {H0 : Heap} (h : RRd H g B cB D k f) (h0 : RRd H0 g B cB D k0 f0) (hK : Keep M H H') (hg : ∀ b ∈ M, H0.size ≤ b) : RRd H' g B cB D k f := by
  have l := h0.blk.lt
  refine ⟨h.blk.keep hK (fun hm => by have := hg _ hm; omega), fun hn => ?_, h.le, h.cap, h.few⟩
  obtain ⟨p, e, hm, hc⟩ := h.rd hn
  obtain ⟨q, eq, hq⟩ := h0.rd.rd.lt (List.length_pos_iff.2 hn)
  rw [e] at eq
  obtain rfl := Option.some.inj eq
  exact ⟨p, e, hm, fun j u hu => hK.cell (hc j u hu) (by rw [block_of_add]; intro hm2; have := hg _ hm2; omega)⟩
/-- The entries that were read stand while the blocks of M turn. -/
def EntsM (M : List Nat) (H : Heap) (l : List EH) : Prop := ∀ y ∈ l, RdM eWV M H y.VA y.ev.values ∧ RdM eInt M H y.CA y.clk
set_option maxRecDepth 100000 in
theorem EntsM.tr {M M' : List Nat} {H H' : Heap} {l : List EH} (h : EntsM M H l) (t : Tr M H M' H') : EntsM M' H' l := fun y hy => ⟨(h y hy).1.tr t, (h y hy).2.tr t⟩
set_option maxRecDepth 100000 in
theorem Grew.trM {H H' : Heap} {v v' : Value} (h : Grew H v H' v') (M : List Nat) : Tr (v.ownBlock.toList ++ M) H (v'.ownBlock.toList ++ M) H' := Tr.grew h M
set_option maxRecDepth 100000 in
theorem logDecode_c (A : Option Addr) (ca : Nat) (b : List UInt8) (H : Heap) (hA : Rd eByte H A b) (hl : b.length ≤ 1000000) :
    CallsH Try.prog 30 [.slice A b.length ca] H fun v H' => ∃ O oc l, v = .tuple #[.slice O (List.length (α := EH) l) oc, .int .i64 (decL b).1] ∧ LogRd H' O l ∧ l.map EH.ent = (decL b).2 ∧ (∀ e ∈ (decL b).2, OkEn e) ∧ (decL b).2.length ≤ 1000 ∧ Ext H H' := by
  refine callsH_of Try.func30 rfl Try.ntmps30 (Nat.le_of_ble_eq_true rfl) ?_
  refine wpSeq fun F1 hF1 => ?_
  refine wpRegion ?_
  refine seqQ rfl rfl (yAssign (v := .slice _ _ _) rfl rfl) ?_
  refine seqQ rfl rfl (yAssign (v := .int _ _) rfl rfl) ?_
  refine seqNil ?_
  refine hF1 _ _ ?_; clear hF1
  refine wpSeq fun F2 hF2 => ?_
  refine wpRegion ?_
  refine seqQ rfl rfl (yMove (v := .slice _ _ _) rfl rfl) ?_
  -- e slot 8: call F60<farandole/wire.New> t7
  refine seqE rfl rfl (stepCall rfl Try.call60 rfl ?_)
  refine (New_c A ca b H hA hl).mono ?_
  rintro v H1 ⟨x1, g, Bd, cd, rfl, hg, q1, -⟩
  refine seqQ rfl rfl (yAssign (v := .pointer _) rfl rfl) ?_
  refine seqNil ?_
  refine hF2 _ _ ?_; clear hF2
  refine wpSeq fun F3 hF3 => ?_
  refine wpRegion ?_
  refine seqQ rfl rfl (yAssign (v := .slice _ _ _) rfl rfl) ?_
  refine seqNil ?_
  refine hF3 _ _ ?_; clear hF3
  refine wpSeq fun F4 hF4 => ?_
  refine wpSeq fun F5 hF5 => ?_
  refine wpRegion ?_
  refine seqQ rfl rfl (yMove (v := .pointer _) rfl rfl) ?_
  -- e slot 10: call F61<(*farandole/wire.Reader).Bounded> t9 [i:i64:0] [i:i64:1000]
  refine seqE rfl rfl (stepCall rfl Try.call61 rfl ?_)
  refine (Bounded_c g Bd cd b 0 false 0 1000 H1 q1).mono ?_
  rintro v H2 hp
  obtain ⟨n, f1, k1, rfl, q2, hK2, hd1⟩ : ∃ n f1 k1, v = .int .i64 n ∧ Rdr H2 g Bd cd b k1 f1 ∧ Keep [g] H1 H2 ∧ ((f1 = true ∧ prs (pBnd 0 1000) false b 0 = none ∧ n = 0) ∨ (f1 = false ∧ prs (pBnd 0 1000) false b 0 = some (n, b.drop k1) ∧ 0 ≤ n ∧ n ≤ 1000)) := by
    obtain ⟨hK2, ⟨n, k', hp, hr, rfl, h0, h1⟩ | ⟨hp, hr, rfl⟩⟩ := hp
    · exact ⟨n, false, k', rfl, hr, hK2, .inr ⟨rfl, hp, h0, h1⟩⟩
    · exact ⟨0, true, 0, rfl, hr, hK2, .inl ⟨rfl, hp, rfl⟩⟩
  have s1 := x1.size
  have s2 := hK2.size
  have gl := q1.blk.lt
  have hE2 : Ext H H2 := x1.mine hK2 (by simp; omega)
  obtain ⟨N, hN⟩ : ∃ N : Nat, n = N := by
    rcases hd1 with ⟨-, -, h⟩ | ⟨-, -, h, -⟩
    · exact ⟨0, h⟩
    · exact ⟨n.toNat, by omega⟩
  subst hN
  have hN1 : N ≤ 1000 := by
    rcases hd1 with ⟨-, -, h⟩ | ⟨-, -, -, h⟩ <;> omega
  refine seqQ rfl rfl (yMove (v := .int _ _) rfl rfl) ?_
  refine seqNil ?_
  refine hF5 _ _ ?_; clear hF5
  -- loop
  refine wpBlock ?_
  refine wpLoopS [5, 6, 11, 12, 13, 14, 15, 16, 17, 18, 19, 20, 21, 22] (fun x : Nat × Value × List EH × Nat × Bool => [(11, .int .i64 x.1), (5, x.2.1)]) (fun x H' => x.1 ≤ N ∧ Ext H H' ∧ H2.size ≤ H'.size ∧ Rdr H' g Bd cd b x.2.2.2.1 x.2.2.2.2 ∧ Own eEH 72 H' H2.size x.2.1 x.2.2.1 ∧ EntsM (x.2.1.ownBlock.toList ++ [g]) H' x.2.2.1 ∧ (f1 = false → PNs N (b.drop k1) b x.1 (x.2.2.1.map EH.ent) x.2.2.2.1 x.2.2.2.2) ∧ (f1 = true → x.2.2.2.2 = true)) (fun x => N - x.1) (0, .slice none 0 0, [], k1, f1) ⟨rfl, rfl, trivial⟩ ⟨Nat.zero_le _, hE2, Nat.le_refl _, q2, Own.nil _ _, (fun y hy => by cases hy), fun e => by rw [e]; exact PNs.zero _ _ _, id⟩ ?_
  rintro ⟨i, v0, l, k, f⟩ J Hi ⟨hi, hE, s2i, q, ov, hem, hpn, hft⟩
  dsimp only at hi q ov hem hpn hft
  have hf1 : N ≠ 0 → f1 = false := fun h => by
    rcases hd1 with ⟨-, -, h0⟩ | ⟨h0, -⟩
    · omega
    · exact h0
  refine wpSeq fun F6 hF6 => ?_
  refine wpRegion ?_
  refine seqQ rfl rfl (yLss rfl rfl rfl) ?_
  refine seqNil ?_
  refine hF6 _ _ ?_; clear hF6
  refine wpSeq fun F7 hF7 => ?_
  -- if t12
  refine wpIf rfl (fun hlt => ?_) (fun hlt => ?_)
  · skip
    have hin : i < N := by dsimp only at hlt; omega
    replace hpn := hpn (hf1 (by omega))
    have hll : l.length = i := by have := hpn.1; rwa [List.length_map] at this
    have q0 := q2
    obtain ⟨OA, oc, rfl, -⟩ := ov.form
    refine wpSkip ?_
    refine hF7 _ _ ?_; clear hF7
    refine wpSeq fun F8 hF8 => ?_
    refine wpBlock ?_
    refine wpSeq fun F9 hF9 => ?_
    refine wpRegion ?_
    refine seqQ rfl rfl (yMove (v := .pointer _) rfl rfl) ?_
    -- e slot 14: call F62<(*farandole/wire.Reader).Event> t13
    refine seqE rfl rfl (stepCall rfl Try.call62 rfl ?_)
    refine (Event_c g Bd cd b k f Hi q).mono ?_
    rintro v H3 hp3
    obtain ⟨hKe, x, VA, vc, fe, ke, rfl, re, oe, ee, oke⟩ := hp3.evF
    have s3 := hKe.size
    have gi := q.blk.lt
    have lv := ov.lt
    refine seqN rfl rfl (nAlloc rfl Try.zeroValue26 rfl) (fun g6 H6 hx6 hB6 hg6 hl6 => ?_)
    -- e slot None: store T26 t6 t14
    refine seqE0 rfl rfl (stepStoreB rfl (by kernel_rfl) rfl rfl rfl hB6 rfl ?_)
    intro H4 h4 hK4
    have x34 : Ext H3 H4 := hx6.mine hK4 (by simp; omega)
    have re4 := re.ext x34
    clear hB6 hK4 hx6
    refine seqNil ?_
    refine hF9 _ _ ?_; clear hF9
    refine wpRegionD Try_mixed [.q, .q, .q, .e, .q, .n, .e, .q] 6 [0, 0, 0, 4, 14, 30, 63, 127] [g] (by kernel_rfl) _ rfl [0, 1, 2, 3, 4, 5] rfl (fun b hb => by rw [List.mem_singleton.1 hb]; exact re4.blk.lt) ?_
    refine lexQ rfl rfl rfl rfl (fun H hM => (yMove (v := .slice _ _ _) rfl rfl)) ?_
    refine lexQ rfl rfl rfl rfl (fun H hM => (yLoadB (h4.keep hM (by simp; omega)) rfl Try.underlying26 rfl Try.sizeOf26 rfl)) ?_
    refine lexQ rfl rfl rfl rfl (fun H hM => (yMove (v := .pointer _) rfl rfl)) ?_
    -- e slot 18: call F63<(*farandole/wire.Reader).Ints> t17 [i:i64:6]
    refine lexE rfl rfl rfl rfl (fun H18 hX18 hM18 hN18 => stepCall rfl Try.call63 rfl ?_)
    refine (Ints_c g Bd cd b ke fe 6 H18 (re4.ext hX18) (by decide)).mono ?_
    rintro v H5 hp5
    obtain ⟨hKi, cl, CA, cc, fi, ki, rfl, ri, oi, ei, oki⟩ := hp5.inF
    refine ⟨hKi, [g], fun b hb => ⟨.inl hb, by rw [List.mem_singleton.1 hb]; exact ri.blk.lt⟩, ?_⟩
    have s5 := hKi.size
    have sX := hX18.size
    have s34 := x34.size
    refine lexQ rfl rfl rfl rfl (fun H hM => (yBuild (pl := [(0, 5), (5, 1)]) (vs := [(0, .agg _), (1, .slice _ _ _)]) rfl Try.underlying72 Try.zeroValue72 rfl (by unfold Places; kernel_rfl) rfl rfl)) ?_
    refine lexNB rfl rfl rfl rfl (nBuildSliceN (vs := [.agg _]) rfl Try.underlying35 Try.sizeOf72 Try.zeroValue72 rfl rfl rfl rfl rfl) (fun g20 hg20 hne20 => ?_)
    -- tail
    refine lexNil (fun Hf hXf hMf hNf => ?_)
    have sf := hXf.size
    have ovf := ((((ov.keep hKe (fun gg e => by have := (lv gg e).1; simp; omega)).ext x34).ext hX18).keep hKi (fun gg e => by have := (lv gg e).1; simp; omega)).ext hXf
    have rf := ri.ext hXf
    -- e slot 21: builtin append t15 t20 : [35, 35]
    refine seqE rfl rfl (stepApp (c := eEH) ovf rfl Try.underlying35 elem_ent rfl (by omega) rfl rfl rfl (Blk.rd (c := eEH) (l := [⟨x, VA, vc, cl, CA, cc⟩]) (NF.blk 5 hNf (.head _))) (by simp only [List.length_singleton]; omega) (by omega) ?_)
    intro v6 Hg og gr
    have t1 : Tr ((Value.slice OA l.length oc).ownBlock.toList ++ [g]) Hi ((Value.slice OA l.length oc).ownBlock.toList ++ [g]) H3 := Tr.of_keep (hKe.mono fun b hb => List.mem_append.2 (.inr hb))
    have t4 : Tr ((Value.slice OA l.length oc).ownBlock.toList ++ [g]) H18 ((Value.slice OA l.length oc).ownBlock.toList ++ [g]) H5 := Tr.of_keep (hKi.mono fun b hb => List.mem_append.2 (.inr hb))
    have t35 := ((Tr.of_ext x34 ((Value.slice OA l.length oc).ownBlock.toList ++ [g])).trans (Tr.of_ext hX18 _)).trans t4
    have t5g := (Tr.of_ext hXf ((Value.slice OA l.length oc).ownBlock.toList ++ [g])).trans (gr.trM [g])
    have hMi : ∀ b ∈ (Value.slice OA l.length oc).ownBlock.toList ++ [g], b < Hi.size := fun b hb => by
      rcases List.mem_append.1 hb with hb | hb
      · rw [Option.mem_toList] at hb; exact (lv b hb).2
      · rw [List.mem_singleton.1 hb]; exact gi
    have hE3 := hE.mine hKe (by simp; omega)
    have hEg : Ext H Hg := gr.ext (((hE3.trans x34).trans hX18).mine hKi (by simp; omega) |>.trans hXf) (fun gg e => by have := (lv gg e).1; omega)
    have hent : EntsM (v6.ownBlock.toList ++ [g]) Hg (l ++ [⟨x, VA, vc, cl, CA, cc⟩]) := fun y hy => by
      rcases List.mem_append.1 hy with hy | hy
      · exact ((hem.tr t1).tr (t35.trans t5g)) y hy
      · rw [List.mem_singleton.1 hy]
        exact ⟨((Own.rdM oe hMi).tr t35).tr t5g, (Own.rdM oi (fun b hb => by have := hMi b hb; omega)).tr t5g⟩
    have rg := rf.newM (M := (Value.slice OA l.length oc).ownBlock.toList) q0 gr.1 (fun b hb => by rw [Option.mem_toList] at hb; have := (lv b hb).1; omega)
    have hpn2 := hpn.step hin ee ei oke oki
    have sgr := gr.1.size
    obtain ⟨A6, c6, rfl, -⟩ := og.form
    refine seqQ rfl rfl (yAssign (v := .slice _ _ _) rfl rfl) ?_
    refine seqNil ?_
    refine hF8 _ _ ?_; clear hF8
    refine wpRegion ?_
    refine seqQ rfl rfl (yAdd rfl rfl rfl (by unfold In64; omega)) ?_
    refine seqQ rfl rfl (yMove (v := .int _ _) rfl rfl) ?_
    refine seqNil ?_
    -- end loop
    exact loopEnd (i + 1, _, l ++ [⟨x, VA, vc, cl, CA, cc⟩], ki, fi) (by repeat (first | (with_reducible exact Agree.refl _ _) | refine Agree.upd ?_ rfl | refine Agree.over ?_ rfl)) (by dsimp only; omega) ⟨rfl, rfl, trivial⟩ ⟨hin, hEg, by omega, rg, og, hent, fun _ => (by dsimp only; rw [List.map_append]; exact hpn2), fun e => by have := hf1 (by omega); rw [e] at this; cases this⟩
  · skip
    have hiN : i = N := by dsimp only at hlt; omega
    obtain ⟨OA, oc, rfl, -⟩ := ov.form
    have hdec : decL b = (if f = true ∨ k < b.length then (4, []) else (0, l.map EH.ent)) ∧ (f = false → ∀ e ∈ l.map EH.ent, OkEn e) ∧ (f = false → l.length ≤ 1000) := by
      rcases hd1 with ⟨h0, hp, -⟩ | ⟨h0, hp, -, -⟩
      · have hf := hft h0
        rw [prs_f, List.drop_zero] at hp
        refine ⟨?_, fun e => (by rw [hf] at e; cases e), fun e => (by rw [hf] at e; cases e)⟩
        rw [if_pos (.inl hf)]
        unfold decL pList
        rw [hp]
        rfl
      · rw [prs_f, List.drop_zero] at hp
        have hpn' := hpn h0
        obtain ⟨h2, h3⟩ := hpn'.fin (fun _ => hiN) hp
        exact ⟨h2, h3, fun _ => by have := hpn'.1; rw [List.length_map] at this; omega⟩
    obtain ⟨hdec, hok, hlen⟩ := hdec
    refine wpExit ?_
    refine hF4 _ _ ?_; clear hF4
    refine wpSeq fun F10 hF10 => ?_
    refine wpSeq fun F11 hF11 => ?_
    refine wpRegion ?_
    refine seqQ rfl rfl (yMove (v := .pointer _) rfl rfl) ?_
    -- e slot 24: call F64<(*farandole/wire.Reader).End> t23
    refine seqE rfl rfl (stepCall rfl Try.call64 rfl ?_)
    refine (End_c g Bd cd b k f Hi q).mono ?_
    rintro v Hz ⟨rfl, e⟩
    obtain rfl := e.symm
    clear e
    by_cases hbad : f = true ∨ k < b.length
    · skip
      rw [if_pos hbad] at hdec ⊢
      refine seqQ rfl rfl (yNeq rfl rfl rfl) ?_
      refine seqNil ?_
      refine hF11 _ _ ?_; clear hF11
      -- if t25
      refine wpT rfl ?_
      refine wpSeq fun F12 hF12 => ?_
      refine wpRegion ?_
      refine seqQ rfl rfl (yAssign (v := .slice _ _ _) rfl rfl) ?_
      refine seqQ rfl rfl (yAssign (v := .int _ _) rfl rfl) ?_
      refine seqNil ?_
      refine hF12 _ _ ?_; clear hF12
      -- ret
      refine wpRet (fin2 (v := .slice _ _ _) (v' := .int _ _) rfl rfl rfl ?_)
      rw [hdec]
      exact ⟨none, 0, [], rfl, LogRd.nil _ _, rfl, fun e h => (by cases h), Nat.zero_le _, hE⟩
    · skip
      rw [if_neg hbad] at hdec ⊢
      have hff : f = false := by cases f; rfl; exact absurd (.inl rfl) hbad
      refine seqQ rfl rfl (yNeq rfl rfl rfl) ?_
      refine seqNil ?_
      refine hF11 _ _ ?_; clear hF11
      -- if t25
      refine wpF rfl ?_
      refine wpSkip ?_
      refine hF10 _ _ ?_; clear hF10
      refine wpSeq fun F13 hF13 => ?_
      refine wpRegion ?_
      refine seqQ rfl rfl (yMove (v := .slice _ _ _) rfl rfl) ?_
      refine seqQ rfl rfl (yAssign (v := .slice _ _ _) rfl rfl) ?_
      refine seqQ rfl rfl (yAssign (v := .int _ _) rfl rfl) ?_
      refine seqNil ?_
      refine hF13 _ _ ?_; clear hF13
      -- ret
      refine wpRet (fin2 (v := .slice _ _ _) (v' := .int _ _) rfl rfl rfl ?_)
      rw [hdec]
      exact ⟨OA, oc, l, rfl, ⟨(Own.rd ov).2, fun y hy => ⟨(hem y hy).1.rd, (hem y hy).2.rd⟩⟩, rfl, hok hff, by rw [List.length_map]; exact hlen hff, hE⟩
set_option maxRecDepth 100000 in
theorem rlogDecode_c (A : Option Addr) (ca : Nat) (b : List UInt8) (H : Heap) (hA : Rd eByte H A b) (hca : b.length ≤ ca) (hl : b.length ≤ 1000000) :
    CallsH Try.prog 31 [.slice A b.length ca] H fun v H' => ∃ O oc l, v = .tuple #[.slice O (List.length (α := EH) l) oc, .int .i64 (decL b).1] ∧ LogRd H' O l ∧ l.map EH.ent = (decL b).2 ∧ Ext H H' := by
  refine callsH_of Try.func31 rfl Try.ntmps31 (Nat.le_of_ble_eq_true rfl) ?_
  refine wpSeq fun F1 hF1 => ?_
  refine wpRegion ?_
  refine seqQ rfl rfl (yAssign (v := .slice _ _ _) rfl rfl) ?_
  refine seqQ rfl rfl (yAssign (v := .int _ _) rfl rfl) ?_
  refine seqNil ?_
  refine hF1 _ _ ?_; clear hF1
  refine wpSeq fun F2 hF2 => ?_
  refine wpRegion ?_
  refine seqQ rfl rfl (yMove (v := .slice _ _ _) rfl rfl) ?_
  refine seqQ rfl rfl (yBuild (pl := [(0, 1), (1, 1), (2, 1)]) (vs := [(0, .slice _ _ _)]) rfl Try.underlying126 Try.zeroValue126 rfl (by unfold Places; kernel_rfl) rfl rfl) ?_
  refine seqN rfl rfl (nBoxA rfl rfl) (fun g11 H11 hx11 hB11 hg11 hl11 => ?_)
  refine seqQ rfl rfl (yAssign (v := .pointer _) rfl rfl) ?_
  refine seqNil ?_
  refine hF2 _ _ ?_; clear hF2
  refine wpSeq fun F3 hF3 => ?_
  refine wpRegion ?_
  refine seqQ rfl rfl (yMove (v := .pointer _) rfl rfl) ?_
  -- e slot 13: call F65<(*farandole/farandoleref01.Reader).Bounded> t12 [i:i64:0] [i:i64:1000]
  have q1 : RRd H11 g11 A ca b 0 false := ⟨hB11, RdM.old hA hx11 (by simp; omega), Nat.zero_le _, hca, hl⟩
  have hg := hg11
  have x1 := hx11
  clear hx11 hB11
  obtain ⟨g, rfl⟩ : ∃ g, g = g11 := ⟨_, rfl⟩
  obtain ⟨Bd, rfl⟩ : ∃ Bd, Bd = A := ⟨_, rfl⟩
  obtain ⟨cd, rfl⟩ : ∃ cd, cd = ca := ⟨_, rfl⟩
  refine seqE rfl rfl (stepCall rfl Try.call65 rfl ?_)
  refine (rBnd01_c g Bd cd b 0 false 0 1000 H11 q1).mono ?_
  rintro v H2 hp
  obtain ⟨n, f1, k1, rfl, q2, hK2, hd1⟩ : ∃ n f1 k1, v = .int .i64 n ∧ RRd H2 g Bd cd b k1 f1 ∧ Keep [g] H11 H2 ∧ ((f1 = true ∧ prs (pBnd 0 1000) false b 0 = none ∧ n = 0) ∨ (f1 = false ∧ prs (pBnd 0 1000) false b 0 = some (n, b.drop k1) ∧ 0 ≤ n ∧ n ≤ 1000)) := by
    obtain ⟨hK2, ⟨n, r, k', hp, rfl, hr, rfl, h0, h1⟩ | ⟨hp, ⟨k', hr⟩, rfl⟩⟩ := hp
    · exact ⟨n, false, k', rfl, hr, hK2, .inr ⟨rfl, hp, h0, h1⟩⟩
    · exact ⟨0, true, k', rfl, hr, hK2, .inl ⟨rfl, hp, rfl⟩⟩
  have s1 := x1.size
  have s2 := hK2.size
  have gl := q1.blk.lt
  have hE2 : Ext H H2 := x1.mine hK2 (by simp; omega)
  obtain ⟨N, hN⟩ : ∃ N : Nat, n = N := by
    rcases hd1 with ⟨-, -, h⟩ | ⟨-, -, h, -⟩
    · exact ⟨0, h⟩
    · exact ⟨n.toNat, by omega⟩
  subst hN
  have hN1 : N ≤ 1000 := by
    rcases hd1 with ⟨-, -, h⟩ | ⟨-, -, -, h⟩ <;> omega
  refine seqQ rfl rfl (yAssign (v := .int _ _) rfl rfl) ?_
  refine seqNil ?_
  refine hF3 _ _ ?_; clear hF3
  refine wpSeq fun F4 hF4 => ?_
  refine wpRegion ?_
  refine seqQ rfl rfl (yAssign (v := .slice _ _ _) rfl rfl) ?_
  refine seqNil ?_
  refine hF4 _ _ ?_; clear hF4
  refine wpSeq fun F5 hF5 => ?_
  refine wpSeq fun F6 hF6 => ?_
  refine wpRegion ?_
  refine seqQ rfl rfl (yAssign (v := .int _ _) rfl rfl) ?_
  refine seqNil ?_
  refine hF6 _ _ ?_; clear hF6
  -- loop
  refine wpBlock ?_
  refine wpLoopS [6, 7, 8, 14, 15, 16, 17, 18, 19, 20, 21, 22, 23, 24, 25, 26, 27, 28, 29, 30, 31, 32, 33, 34] (fun x : Nat × Value × List EH × Nat × Bool => [(7, .int .i64 x.1), (6, x.2.1)]) (fun x H' => x.1 ≤ N ∧ Ext H H' ∧ H2.size ≤ H'.size ∧ RRd H' g Bd cd b x.2.2.2.1 x.2.2.2.2 ∧ Own eEH 86 H' H2.size x.2.1 x.2.2.1 ∧ EntsM (x.2.1.ownBlock.toList ++ [g]) H' x.2.2.1 ∧ (f1 = false → PNs N (b.drop k1) b x.1 (x.2.2.1.map EH.ent) x.2.2.2.1 x.2.2.2.2) ∧ (f1 = true → x.2.2.2.2 = true)) (fun x => N - x.1) (0, .slice none 0 0, [], k1, f1) ⟨rfl, rfl, trivial⟩ ⟨Nat.zero_le _, hE2, Nat.le_refl _, q2, Own.nil _ _, (fun y hy => by cases hy), fun e => by rw [e]; exact PNs.zero _ _ _, id⟩ ?_
  rintro ⟨i, v0, l, k, f⟩ J Hi ⟨hi, hE, s2i, q, ov, hem, hpn, hft⟩
  dsimp only at hi q ov hem hpn hft
  have hf1 : N ≠ 0 → f1 = false := fun h => by
    rcases hd1 with ⟨-, -, h0⟩ | ⟨h0, -⟩
    · omega
    · exact h0
  obtain ⟨OA, oc, rfl, -⟩ := ov.form
  have hdec : (f = false → i = N) → decL b = (if f = true ∨ k < b.length then (4, []) else (0, l.map EH.ent)) := fun hiN => by
    rcases hd1 with ⟨h0, hp, -⟩ | ⟨h0, hp, -, -⟩
    · have hf := hft h0
      rw [prs_f, List.drop_zero] at hp
      rw [if_pos (.inl hf)]
      unfold decL pList
      rw [hp]
      rfl
    · rw [prs_f, List.drop_zero] at hp
      exact ((hpn h0).fin hiN hp).1
  have hkl := q.le
  refine wpSeq fun F7 hF7 => ?_
  refine wpSeq fun F8 hF8 => ?_
  refine wpRegion ?_
  refine seqQ rfl rfl (yMove (v := .int _ _) rfl rfl) ?_
  refine seqQ rfl rfl (yMove (v := .int _ _) rfl rfl) ?_
  refine seqQ rfl rfl (yLss rfl rfl rfl) ?_
  -- guard t17
  by_cases hin : i < N
  · skip
    rw [decide_eq_true (show (i : Int) < (N : Int) by omega)]
    refine seqQ rfl rfl (yMove (v := .bool true) rfl rfl) ?_
    refine seqQ rfl rfl (yMove (v := .pointer _) rfl rfl) ?_
    refine seqQ rfl rfl (yNilCheck rfl rfl) ?_
    refine seqQ rfl rfl (yFieldAddr rfl Try.underlying126 rfl Try.sizeOf4 rfl rfl) ?_
    refine seqQ rfl rfl (yLoad rfl Try.underlying4 rfl rfl (q.blk.cell rfl)) ?_
    refine seqQ rfl rfl (yNot rfl rfl) ?_
    refine seqQ rfl rfl (yPickT (v := .bool _) rfl rfl rfl) ?_
    refine seqNil ?_
    refine hF8 _ _ ?_; clear hF8
    -- if t23
    cases f
    · skip
      refine wpT rfl ?_
      replace hpn := hpn (hf1 (by omega))
      have hll : l.length = i := by have := hpn.1; rwa [List.length_map] at this
      have q0 := q2
      refine wpSkip ?_
      refine hF7 _ _ ?_; clear hF7
      refine wpSeq fun F9 hF9 => ?_
      refine wpBlock ?_
      refine wpSeq fun F10 hF10 => ?_
      refine wpRegion ?_
      refine seqQ rfl rfl (yMove (v := .pointer _) rfl rfl) ?_
      -- e slot 27: call F66<(*farandole/farandoleref01.Reader).Event> t26
      refine seqE rfl rfl (stepCall rfl Try.call66 rfl ?_)
      refine (rEvt01_c g Bd cd b k false Hi q).mono ?_
      rintro v H3 hp3
      obtain ⟨hKe, x, VA, vc, fe, ke, rfl, re, oe, ee, oke⟩ := hp3
      have s3 := hKe.size
      have gi := q.blk.lt
      have lv := ov.lt
      refine seqN rfl rfl (nAlloc rfl Try.zeroValue26 rfl) (fun g8 H8 hx8 hB8 hg8 hl8 => ?_)
      -- e slot None: store T26 t8 t27
      refine seqE0 rfl rfl (stepStoreB rfl (by kernel_rfl) rfl rfl rfl hB8 rfl ?_)
      intro H4 h4 hK4
      have x34 : Ext H3 H4 := hx8.mine hK4 (by simp; omega)
      have re4 := re.ext x34
      clear hB8 hK4 hx8
      refine seqNil ?_
      refine hF10 _ _ ?_; clear hF10
      refine wpRegionD Try_mixed [.q, .q, .q, .e, .q, .n, .e, .q] 6 [0, 0, 0, 4, 14, 30, 63, 127] [g] (by kernel_rfl) _ rfl [0, 1, 2, 3, 4, 5] rfl (fun b hb => by rw [List.mem_singleton.1 hb]; exact re4.blk.lt) ?_
      refine lexQ rfl rfl rfl rfl (fun H hM => (yMove (v := .slice _ _ _) rfl rfl)) ?_
      refine lexQ rfl rfl rfl rfl (fun H hM => (yLoadB (h4.keep hM (by simp; omega)) rfl Try.underlying26 rfl Try.sizeOf26 rfl)) ?_
      refine lexQ rfl rfl rfl rfl (fun H hM => (yMove (v := .pointer _) rfl rfl)) ?_
      -- e slot 31: call F67<(*farandole/farandoleref01.Reader).Ints> t30 [i:i64:6]
      refine lexE rfl rfl rfl rfl (fun H31 hX31 hM31 hN31 => stepCall rfl Try.call67 rfl ?_)
      refine (rInts01_c g Bd cd b ke fe 6 H31 (re4.ext hX31) (by decide)).mono ?_
      rintro v H5 hp5
      obtain ⟨hKi, cl, CA, cc, fi, ki, rfl, ri, oi, ei, oki⟩ := hp5.inF
      refine ⟨hKi, [g], fun b hb => ⟨.inl hb, by rw [List.mem_singleton.1 hb]; exact ri.blk.lt⟩, ?_⟩
      have s5 := hKi.size
      have sX := hX31.size
      have s34 := x34.size
      refine lexQ rfl rfl rfl rfl (fun H hM => (yBuild (pl := [(0, 5), (5, 1)]) (vs := [(0, .agg _), (1, .slice _ _ _)]) rfl Try.underlying86 Try.zeroValue86 rfl (by unfold Places; kernel_rfl) rfl rfl)) ?_
      refine lexNB rfl rfl rfl rfl (nBuildSliceN (vs := [.agg _]) rfl Try.underlying23 Try.sizeOf86 Try.zeroValue86 rfl rfl rfl rfl rfl) (fun g33 hg33 hne33 => ?_)
      -- tail
      refine lexNil (fun Hf hXf hMf hNf => ?_)
      have sf := hXf.size
      have ovf := ((((ov.keep hKe (fun gg e => by have := (lv gg e).1; simp; omega)).ext x34).ext hX31).keep hKi (fun gg e => by have := (lv gg e).1; simp; omega)).ext hXf
      have rf := ri.ext hXf
      -- e slot 34: builtin append t28 t33 : [23, 23]
      refine seqE rfl rfl (stepApp (c := eEH) ovf rfl Try.underlying23 elem_entR rfl (by omega) rfl rfl rfl (Blk.rd (c := eEH) (l := [⟨x, VA, vc, cl, CA, cc⟩]) (NF.blk 5 hNf (.head _))) (by simp only [List.length_singleton]; omega) (by omega) ?_)
      intro v6 Hg og gr
      have t1 : Tr ((Value.slice OA l.length oc).ownBlock.toList ++ [g]) Hi ((Value.slice OA l.length oc).ownBlock.toList ++ [g]) H3 := Tr.of_keep (hKe.mono fun b hb => List.mem_append.2 (.inr hb))
      have t4 : Tr ((Value.slice OA l.length oc).ownBlock.toList ++ [g]) H31 ((Value.slice OA l.length oc).ownBlock.toList ++ [g]) H5 := Tr.of_keep (hKi.mono fun b hb => List.mem_append.2 (.inr hb))
      have t35 := ((Tr.of_ext x34 ((Value.slice OA l.length oc).ownBlock.toList ++ [g])).trans (Tr.of_ext hX31 _)).trans t4
      have t5g := (Tr.of_ext hXf ((Value.slice OA l.length oc).ownBlock.toList ++ [g])).trans (gr.trM [g])
      have hMi : ∀ b ∈ (Value.slice OA l.length oc).ownBlock.toList ++ [g], b < Hi.size := fun b hb => by
        rcases List.mem_append.1 hb with hb | hb
        · rw [Option.mem_toList] at hb; exact (lv b hb).2
        · rw [List.mem_singleton.1 hb]; exact gi
      have hE3 := hE.mine hKe (by simp; omega)
      have hEg : Ext H Hg := gr.ext (((hE3.trans x34).trans hX31).mine hKi (by simp; omega) |>.trans hXf) (fun gg e => by have := (lv gg e).1; omega)
      have hent : EntsM (v6.ownBlock.toList ++ [g]) Hg (l ++ [⟨x, VA, vc, cl, CA, cc⟩]) := fun y hy => by
        rcases List.mem_append.1 hy with hy | hy
        · exact ((hem.tr t1).tr (t35.trans t5g)) y hy
        · rw [List.mem_singleton.1 hy]
          exact ⟨((Own.rdM oe hMi).tr t35).tr t5g, (Own.rdM oi (fun b hb => by have := hMi b hb; omega)).tr t5g⟩
      have rg := rf.newM (M := (Value.slice OA l.length oc).ownBlock.toList) q0 gr.1 (fun b hb => by rw [Option.mem_toList] at hb; have := (lv b hb).1; omega)
      have hpn2 := hpn.step hin ee ei oke oki
      have sgr := gr.1.size
      obtain ⟨A6, c6, rfl, -⟩ := og.form
      refine seqQ rfl rfl (yAssign (v := .slice _ _ _) rfl rfl) ?_
      refine seqNil ?_
      refine hF9 _ _ ?_; clear hF9
      refine wpRegion ?_
      refine seqQ rfl rfl (yMove (v := .int _ _) rfl rfl) ?_
      refine seqQ rfl rfl (yAdd rfl rfl rfl (by unfold In64; omega)) ?_
      refine seqQ rfl rfl (yAssign (v := .int _ _) rfl rfl) ?_
      refine seqNil ?_
      -- end loop
      exact loopEnd (i + 1, _, l ++ [⟨x, VA, vc, cl, CA, cc⟩], ki, fi) (by repeat (first | (with_reducible exact Agree.refl _ _) | refine Agree.upd ?_ rfl | refine Agree.over ?_ rfl)) (by dsimp only; omega) ⟨rfl, rfl, trivial⟩ ⟨hin, hEg, by omega, rg, og, hent, fun _ => (by dsimp only; rw [List.map_append]; exact hpn2), fun e => by have := hf1 (by omega); rw [e] at this; cases this⟩
    · skip
      refine wpF rfl ?_
      refine wpExit ?_
      refine hF5 _ _ ?_; clear hF5
      refine wpSeq fun F11 hF11 => ?_
      refine wpSeq fun F12 hF12 => ?_
      refine wpRegion ?_
      refine seqQ rfl rfl (yMove (v := .pointer _) rfl rfl) ?_
      -- e slot 36: call F68<(*farandole/farandoleref01.Reader).End> t35
      refine seqE rfl rfl (stepCall rfl Try.call68 rfl ?_)
      refine (rEnd01_c g Bd cd b k true Hi q).mono ?_
      rintro v Hz ⟨rfl, e⟩
      obtain rfl := e.symm
      clear e
      replace hdec := hdec (fun h => by cases h)
      by_cases hbad : true = true ∨ k ≠ b.length
      · skip
        rw [if_pos (by rcases hbad with h | h; exact .inl h; exact .inr (by omega))] at hdec
        rw [if_pos hbad]
        refine seqQ rfl rfl (yNeq rfl rfl rfl) ?_
        refine seqNil ?_
        refine hF12 _ _ ?_; clear hF12
        -- if t37
        refine wpT rfl ?_
        refine wpSeq fun F13 hF13 => ?_
        refine wpRegion ?_
        refine seqQ rfl rfl (yAssign (v := .slice _ _ _) rfl rfl) ?_
        refine seqQ rfl rfl (yAssign (v := .int _ _) rfl rfl) ?_
        refine seqNil ?_
        refine hF13 _ _ ?_; clear hF13
        -- ret
        refine wpRet (fin2 (v := .slice _ _ _) (v' := .int _ _) rfl rfl rfl ?_)
        rw [hdec]
        exact ⟨none, 0, [], rfl, LogRd.nil _ _, rfl, hE⟩
      · skip
        rw [if_neg (fun h => hbad (by rcases h with h | h; exact .inl h; exact .inr (by omega)))] at hdec
        rw [if_neg hbad]
        refine seqQ rfl rfl (yNeq rfl rfl rfl) ?_
        refine seqNil ?_
        refine hF12 _ _ ?_; clear hF12
        -- if t37
        refine wpF rfl ?_
        refine wpSkip ?_
        refine hF11 _ _ ?_; clear hF11
        refine wpSeq fun F14 hF14 => ?_
        refine wpRegion ?_
        refine seqQ rfl rfl (yMove (v := .slice _ _ _) rfl rfl) ?_
        refine seqQ rfl rfl (yAssign (v := .slice _ _ _) rfl rfl) ?_
        refine seqQ rfl rfl (yAssign (v := .int _ _) rfl rfl) ?_
        refine seqNil ?_
        refine hF14 _ _ ?_; clear hF14
        -- ret
        refine wpRet (fin2 (v := .slice _ _ _) (v' := .int _ _) rfl rfl rfl ?_)
        rw [hdec]
        exact ⟨OA, oc, l, rfl, ⟨(Own.rd ov).2, fun y hy => ⟨(hem y hy).1.rd, (hem y hy).2.rd⟩⟩, rfl, hE⟩
  · skip
    rw [decide_eq_false (show ¬ (i : Int) < (N : Int) by omega)]
    refine seqQ rfl rfl (yMove (v := .bool false) rfl rfl) ?_
    refine seqU rfl rfl ?_
    refine seqU rfl rfl ?_
    refine seqU rfl rfl ?_
    refine seqU rfl rfl ?_
    refine seqU rfl rfl ?_
    refine seqQ rfl rfl (yPickF (v := .bool _) rfl rfl rfl) ?_
    refine seqNil ?_
    refine hF8 _ _ ?_; clear hF8
    -- if t23
    refine wpF rfl ?_
    refine wpExit ?_
    refine hF5 _ _ ?_; clear hF5
    refine wpSeq fun F15 hF15 => ?_
    refine wpSeq fun F16 hF16 => ?_
    refine wpRegion ?_
    refine seqQ rfl rfl (yMove (v := .pointer _) rfl rfl) ?_
    -- e slot 36: call F68<(*farandole/farandoleref01.Reader).End> t35
    refine seqE rfl rfl (stepCall rfl Try.call68 rfl ?_)
    refine (rEnd01_c g Bd cd b k f Hi q).mono ?_
    rintro v Hz ⟨rfl, e⟩
    obtain rfl := e.symm
    clear e
    replace hdec := hdec (fun _ => by omega)
    by_cases hbad : f = true ∨ k ≠ b.length
    · skip
      rw [if_pos (by rcases hbad with h | h; exact .inl h; exact .inr (by omega))] at hdec
      rw [if_pos hbad]
      refine seqQ rfl rfl (yNeq rfl rfl rfl) ?_
      refine seqNil ?_
      refine hF16 _ _ ?_; clear hF16
      -- if t37
      refine wpT rfl ?_
      refine wpSeq fun F17 hF17 => ?_
      refine wpRegion ?_
      refine seqQ rfl rfl (yAssign (v := .slice _ _ _) rfl rfl) ?_
      refine seqQ rfl rfl (yAssign (v := .int _ _) rfl rfl) ?_
      refine seqNil ?_
      refine hF17 _ _ ?_; clear hF17
      -- ret
      refine wpRet (fin2 (v := .slice _ _ _) (v' := .int _ _) rfl rfl rfl ?_)
      rw [hdec]
      exact ⟨none, 0, [], rfl, LogRd.nil _ _, rfl, hE⟩
    · skip
      rw [if_neg (fun h => hbad (by rcases h with h | h; exact .inl h; exact .inr (by omega)))] at hdec
      rw [if_neg hbad]
      refine seqQ rfl rfl (yNeq rfl rfl rfl) ?_
      refine seqNil ?_
      refine hF16 _ _ ?_; clear hF16
      -- if t37
      refine wpF rfl ?_
      refine wpSkip ?_
      refine hF15 _ _ ?_; clear hF15
      refine wpSeq fun F18 hF18 => ?_
      refine wpRegion ?_
      refine seqQ rfl rfl (yMove (v := .slice _ _ _) rfl rfl) ?_
      refine seqQ rfl rfl (yAssign (v := .slice _ _ _) rfl rfl) ?_
      refine seqQ rfl rfl (yAssign (v := .int _ _) rfl rfl) ?_
      refine seqNil ?_
      refine hF18 _ _ ?_; clear hF18
      -- ret
      refine wpRet (fin2 (v := .slice _ _ _) (v' := .int _ _) rfl rfl rfl ?_)
      rw [hdec]
      exact ⟨OA, oc, l, rfl, ⟨(Own.rd ov).2, fun y hy => ⟨(hem y hy).1.rd, (hem y hy).2.rd⟩⟩, rfl, hE⟩
end Go.Proofs.Ytbanngdijmglbaa
