/- Package wire: the reader: events. -/
import Derived.Test.YtbanngdijmglbaaW6
namespace Go.Proofs.Ytbanngdijmglbaa
open Go.RowKit

set_option maxRecDepth 100000 in
theorem RP.int {g : Nat} {B : Option Addr} {cB : Nat} {D : List UInt8} {k : Nat} {f : Bool} {H H' : Heap} {v : Value} (h : RP rdI VI UI g B cB D k f H v H') :
    Keep [g] H H' ∧ ∃ f' k' n, Rdr H' g B cB D k' f' ∧ v = .int .i64 n ∧ (f' = false → P64 n) ∧ prs rdI f D k = bif f' then none else some (n, D.drop k') := by
  obtain ⟨hK, f', k', h1, ⟨rfl, hp, z, rfl⟩ | ⟨rfl, a, hp, rfl, h64⟩⟩ := h.flat
  · exact ⟨hK, true, k', z, h1, rfl, (fun h => by cases h), hp⟩
  · exact ⟨hK, false, k', a, h1, rfl, fun _ => h64, hp⟩
set_option maxRecDepth 100000 in
theorem RP.bool {g : Nat} {B : Option Addr} {cB : Nat} {D : List UInt8} {k : Nat} {f : Bool} {H H' : Heap} {v : Value} (h : RP pBool VBo UBo g B cB D k f H v H') :
    Keep [g] H H' ∧ ∃ f' k' n, Rdr H' g B cB D k' f' ∧ v = .bool n ∧ prs pBool f D k = bif f' then none else some (n, D.drop k') := by
  obtain ⟨hK, f', k', h1, ⟨rfl, hp, z, rfl⟩ | ⟨rfl, a, hp, rfl⟩⟩ := h.flat
  · exact ⟨hK, true, k', z, h1, rfl, hp⟩
  · exact ⟨hK, false, k', a, h1, rfl, hp⟩
def pEvt (b : List UInt8) : Option (Evt × List UInt8) := (rdI b).bind fun a => (pBool a.2).bind fun s => (rdI s.2).bind fun p => (rdI p.2).bind fun l => (pList pVal 4 l.2).map fun v => (⟨a.1, s.1, p.1, l.1, v.1⟩, v.2)
def OkE (x : Evt) : Prop := P64 x.role ∧ P64 x.peer ∧ P64 x.label ∧ (∀ y ∈ x.values, OkW y) ∧ x.values.length ≤ 4
def VE (b0 : Nat) (H : Heap) (x : Evt) (v : Value) : Prop := (∃ A c, v = .agg (evC x A c).toArray ∧ Own eWV 88 H b0 (.slice A x.values.length c) x.values) ∧ OkE x
def UE (_ : Heap) (v : Value) : Prop := ∃ (a p l : Int) (s : Bool) (A : Option Addr) (n c : Nat), v = .agg #[.int .i64 a, .bool s, .int .i64 p, .int .i64 l, .slice A n c]
set_option maxRecDepth 100000 in
theorem pList_le {α : Type} {p : List UInt8 → Option (α × List UInt8)} {m : Int} {b r : List UInt8} {l : List α} (h : pList p m b = some (l, r)) : (l.length : Int) ≤ m := by
  unfold pList pBnd at h
  cases hq : rdI b with
  | none => rw [hq] at h; cases h
  | some y =>
    rw [hq] at h
    simp only [Option.bind_some] at h
    by_cases hy : 0 ≤ y.1 ∧ y.1 ≤ m
    · rw [if_pos hy] at h
      simp only [Option.bind_some] at h
      rw [pN_len _ _ _ _ h]
      omega
    · rw [if_neg hy] at h; cases h
set_option maxRecDepth 100000 in
theorem pEvt_chain {D : List UInt8} {k k1 k2 k3 k4 k5 : Nat} {f f1 f2 f3 f4 f5 : Bool} {a p l : Int} {s : Bool} {vs : List Val}
    (h1 : prs rdI f D k = bif f1 then none else some (a, D.drop k1)) (h2 : prs pBool f1 D k1 = bif f2 then none else some (s, D.drop k2)) (h3 : prs rdI f2 D k2 = bif f3 then none else some (p, D.drop k3)) (h4 : prs rdI f3 D k3 = bif f4 then none else some (l, D.drop k4))
    (h5 : prs (pList pVal 4) f4 D k4 = bif f5 then none else some (vs, D.drop k5)) : (prs pEvt f D k = bif f5 then none else some (⟨a, s, p, l, vs⟩, D.drop k5)) ∧ (f5 = false → f1 = false ∧ f2 = false ∧ f3 = false ∧ f4 = false ∧ f = false) := by
  cases f
  · cases f1
    · cases f2
      · cases f3
        · cases f4
          · simp only [prs_f, cond_false] at h1 h2 h3 h4 h5 ⊢
            refine ⟨?_, fun _ => by simp⟩
            unfold pEvt
            simp only [h1, h2, h3, h4, h5, Option.bind_some]
            cases f5 <;> rfl
          · cases f5
            · cases h5
            · refine ⟨?_, fun h => by cases h⟩
              simp only [prs_f, cond_false, cond_true] at h1 h2 h3 h4 ⊢
              unfold pEvt
              simp only [h1, h2, h3, h4, Option.bind_some, Option.bind_none]
        · cases f4
          · cases h4
          · cases f5
            · cases h5
            · refine ⟨?_, fun h => by cases h⟩
              simp only [prs_f, cond_false, cond_true] at h1 h2 h3 ⊢
              unfold pEvt
              simp only [h1, h2, h3, Option.bind_some, Option.bind_none]
      · cases f3
        · cases h3
        · cases f4
          · cases h4
          · cases f5
            · cases h5
            · refine ⟨?_, fun h => by cases h⟩
              simp only [prs_f, cond_false, cond_true] at h1 h2 ⊢
              unfold pEvt
              simp only [h1, h2, Option.bind_some, Option.bind_none]
    · cases f2
      · cases h2
      · cases f3
        · cases h3
        · cases f4
          · cases h4
          · cases f5
            · cases h5
            · refine ⟨?_, fun h => by cases h⟩
              simp only [prs_f, cond_true] at h1 ⊢
              unfold pEvt
              simp only [h1, Option.bind_none]
  · cases f1
    · cases h1
    · cases f2
      · cases h2
      · cases f3
        · cases h3
        · cases f4
          · cases h4
          · cases f5
            · cases h5
            · exact ⟨rfl, fun h => by cases h⟩
set_option maxRecDepth 100000 in
theorem event_r (g : Nat) (B : Option Addr) (cB : Nat) (D : List UInt8) (k : Nat) (f : Bool) (H : Heap) (h : Rdr H g B cB D k f) :
    CallsH Try.prog 89 [.pointer (some ⟨g, 0, none⟩)] H fun v H' => RP pEvt (VE H.size) UE g B cB D k f H v H' := by
  refine callsH_of Try.func89 rfl Try.ntmps89 (Nat.le_of_ble_eq_true rfl) ?_
  refine wpSeq fun F1 hF1 => ?_
  refine wpRegion ?_
  refine seqN rfl rfl (nAlloc rfl Try.zeroValue26 rfl) (fun g2 H2 hx2 hB2 hg2 hl2 => ?_)
  refine seqNil ?_
  refine hF1 _ _ ?_; clear hF1
  refine wpSeq fun F2 hF2 => ?_
  refine wpRegion ?_
  refine seqQ rfl rfl (yMove (v := .pointer _) rfl rfl) ?_
  -- e slot 5: call F93<(*farandole/wire.Reader).integer> t4
  refine seqE rfl rfl (stepCall rfl Try.call93 rfl ?_)
  refine (integer_c g B cB D k f H2 (h.ext hx2)).mono ?_
  rintro v H1 hr
  obtain ⟨hK1, f1, k1, na, h1, rfl, q1, e1⟩ := hr.int
  have hr2 := h.ext hx2
  have s2 := hx2.size
  have s1 := hK1.size
  have l2 := hB2.lt
  have lg := h.blk.lt
  refine seqQ rfl rfl (yBuild (pl := [(0, 1), (1, 1), (2, 1), (3, 1), (4, 1)]) (vs := [(0, .int _ _)]) rfl Try.underlying26 Try.zeroValue26 rfl (by unfold Places; kernel_rfl) rfl rfl) ?_
  refine seqN rfl rfl (nAlloc rfl Try.zeroValue26 rfl) (fun g3 H3 hx3 hB3 hg3 hl3 => ?_)
  -- e slot None: store T26 t3 t6
  refine seqE0 rfl rfl (stepStoreB rfl (by kernel_rfl) rfl rfl rfl hB3 rfl ?_)
  intro H4 hB4 hK4
  have s3 := hx3.size
  replace h1 := (h1.ext hx3).new h hK4 (by omega)
  have hKa : Keep [g] H H4 := keepNew (keepExt ((hx2.keep [g]).trans hK1) hx3) hK4 (by omega)
  have hB24 := ((hB2.keep hK1 (by simp; omega)).ext hx3).keep hK4 (by simp; omega)
  have l4 := hB4.lt
  have s4 := hKa.size
  refine seqNil ?_
  refine hF2 _ _ ?_; clear hF2
  refine wpSeq fun F3 hF3 => ?_
  refine wpRegion ?_
  refine seqQ rfl rfl (yMove (v := .pointer _) rfl rfl) ?_
  -- e slot 8: call F102<(*farandole/wire.Reader).boolean> t7
  refine seqE rfl rfl (stepCall rfl Try.call102 rfl ?_)
  refine (boolean_c g B cB D k1 f1 H4 h1).mono ?_
  rintro v H5 hr
  obtain ⟨hK5, f2, k2, nb, h2, rfl, e2⟩ := hr.bool
  refine seqQ rfl rfl (yFieldAddr rfl Try.underlying26 rfl Try.sizeOf4 rfl rfl) ?_
  -- e slot None: store T4 t9 t8
  refine seqE0 rfl rfl (stepStore rfl Try.sizeOf4 rfl rfl rfl rfl (hB4.keep hK5 (by simp; omega)) (Nat.le_of_ble_eq_true rfl) ?_)
  intro H6 hB6 hK6
  replace h2 := h2.new h hK6 (by omega)
  replace hKa := keepNew (hKa.trans hK5) hK6 (by omega)
  replace hB24 := (hB24.keep hK5 (by simp; omega)).keep hK6 (by simp; omega)
  refine seqNil ?_
  refine hF3 _ _ ?_; clear hF3
  refine wpSeq fun F4 hF4 => ?_
  refine wpRegion ?_
  refine seqQ rfl rfl (yMove (v := .pointer _) rfl rfl) ?_
  -- e slot 11: call F93<(*farandole/wire.Reader).integer> t10
  refine seqE rfl rfl (stepCall rfl Try.call93 rfl ?_)
  refine (integer_c g B cB D k2 f2 H6 h2).mono ?_
  rintro v H7 hr
  obtain ⟨hK7, f3, k3, nc, h3, rfl, q3, e3⟩ := hr.int
  refine seqQ rfl rfl (yFieldAddr rfl Try.underlying26 rfl Try.sizeOf3 rfl rfl) ?_
  -- e slot None: store T3 t12 t11
  refine seqE0 rfl rfl (stepStore rfl Try.sizeOf3 rfl rfl rfl rfl (hB6.keep hK7 (by simp; omega)) (Nat.le_of_ble_eq_true rfl) ?_)
  intro H8 hB8 hK8
  replace h3 := h3.new h hK8 (by omega)
  replace hKa := keepNew (hKa.trans hK7) hK8 (by omega)
  replace hB24 := (hB24.keep hK7 (by simp; omega)).keep hK8 (by simp; omega)
  refine seqNil ?_
  refine hF4 _ _ ?_; clear hF4
  refine wpSeq fun F5 hF5 => ?_
  refine wpRegion ?_
  refine seqQ rfl rfl (yMove (v := .pointer _) rfl rfl) ?_
  -- e slot 14: call F93<(*farandole/wire.Reader).integer> t13
  refine seqE rfl rfl (stepCall rfl Try.call93 rfl ?_)
  refine (integer_c g B cB D k3 f3 H8 h3).mono ?_
  rintro v H9 hr
  obtain ⟨hK9, f4, k4, nd, h4, rfl, q4, e4⟩ := hr.int
  refine seqQ rfl rfl (yFieldAddr rfl Try.underlying26 rfl Try.sizeOf3 rfl rfl) ?_
  -- e slot None: store T3 t15 t14
  refine seqE0 rfl rfl (stepStore rfl Try.sizeOf3 rfl rfl rfl rfl (hB8.keep hK9 (by simp; omega)) (Nat.le_of_ble_eq_true rfl) ?_)
  intro H10 hB10 hK10
  replace h4 := h4.new h hK10 (by omega)
  replace hKa := keepNew (hKa.trans hK9) hK10 (by omega)
  replace hB24 := (hB24.keep hK9 (by simp; omega)).keep hK10 (by simp; omega)
  have l310 := hB10.lt
  have l210 := hB24.lt
  refine seqNil ?_
  refine hF5 _ _ ?_; clear hF5
  refine wpSeq fun F6 hF6 => ?_
  refine wpRegion ?_
  refine seqQ rfl rfl (yMove (v := .pointer _) rfl rfl) ?_
  refine seqQ rfl rfl (yMove (v := .pointer _) rfl rfl) ?_
  refine seqQ rfl rfl (yMakeFunc (first := [.tmp 17]) (captured := []) (vs := [.pointer _]) (us := []) rfl rfl rfl) ?_
  -- e slot 19: call F103<farandole/wire.list[farandole/api.Value]> t16 [i:i64:4] t18
  refine seqE rfl rfl (stepCall rfl Try.call103 rfl ?_)
  refine (listV_r g B cB D k4 f4 4 H10 h4 (by omega)).mono ?_
  rintro v H11 hr
  obtain ⟨hK11, f5, k5, h5, hc5⟩ := hr.flat
  have s10 := hKa.size
  have s11 := hK11.size
  obtain ⟨A, n, c, vs, rfl, hown, e5⟩ : ∃ A n c vs, v = .slice A n c ∧ (f5 = false → n = List.length (α := Val) vs ∧ Own eWV 88 H11 H10.size (.slice A n c) vs ∧ (∀ y ∈ vs, OkW y) ∧ vs.length ≤ 4) ∧ (prs (pList pVal 4) f4 D k4 = bif f5 then none else some (vs, D.drop k5)) := by
    rcases hc5 with ⟨rfl, hp, A, n, c, rfl⟩ | ⟨rfl, a, hp, ho, hQ⟩
    · exact ⟨A, n, c, [], rfl, (fun h => by cases h), hp⟩
    · obtain ⟨A, c, rfl, -⟩ := ho.form
      have hle := pList_le (prs_ff hp).2
      exact ⟨A, _, c, a, rfl, fun _ => ⟨rfl, ho, hQ, by omega⟩, hp⟩
  refine seqQ rfl rfl (yFieldAddr rfl Try.underlying26 rfl Try.sizeOf24 rfl rfl) ?_
  -- e slot None: store T24 t20 t19
  refine seqE0 rfl rfl (stepStore rfl Try.sizeOf24 rfl rfl rfl rfl (hB10.keep hK11 (by simp; omega)) (Nat.le_of_ble_eq_true rfl) ?_)
  intro H12 hB12 hK12
  replace h5 := h5.new h hK12 (by omega)
  replace hKa := keepNew (hKa.trans hK11) hK12 (by omega)
  replace hB24 := (hB24.keep hK11 (by simp; omega)).keep hK12 (by simp; omega)
  have s12 := hK12.size
  refine seqNil ?_
  refine hF6 _ _ ?_; clear hF6
  refine wpSeq fun F7 hF7 => ?_
  refine wpRegion ?_
  refine seqQ rfl rfl (yLoadB hB12 rfl Try.underlying26 rfl Try.sizeOf26 rfl) ?_
  -- e slot None: store T26 t2 t21
  refine seqE0 rfl rfl (stepStoreB rfl (by kernel_rfl) rfl rfl rfl hB24 rfl ?_)
  intro H13 hB13 hK13
  replace h5 := h5.new h hK13 (by omega)
  replace hKa := keepNew hKa hK13 (by omega)
  refine seqNil ?_
  refine hF7 _ _ ?_; clear hF7
  -- ret
  refine wpRet (finR1 rfl (resC Try.underlying26 rfl (by kernel_rfl) rfl hB13) ?_)
  obtain ⟨hch, hff⟩ := pEvt_chain e1 e2 e3 e4 e5
  cases f5
  · obtain ⟨rfl, rfl, rfl, rfl, rfl⟩ := hff rfl
    obtain ⟨rfl, ho, hQ, hl4⟩ := hown rfl
    rw [prs_f] at hch
    refine RP.good hKa hch h5 ⟨⟨A, c, rfl, ?_⟩, q1 rfl, q3 rfl, q4 rfl, hQ, hl4⟩
    exact ((ho.keep hK12 (fun b hb => by have := (ho.lt b hb).1; simp; omega)).keep hK13 (fun b hb => by have := (ho.lt b hb).1; simp; omega)).mono (by omega)
  · exact RP.fail hKa hch h5 ⟨_, _, _, _, _, _, _, rfl⟩
end Go.Proofs.Ytbanngdijmglbaa
