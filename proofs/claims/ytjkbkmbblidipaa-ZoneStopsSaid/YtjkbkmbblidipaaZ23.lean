/- ZoneStops: widening by up to 40 zones, one after the other, changes the zone at most (N+1) times (N+1) + 1 times; valid zones of the same 1 to 3 variables. Conditions: none beyond the statement's. -/
import Derived.Test.YtjkbkmbblidipaaZ19
import Derived.Test.YtjkbkmbblidipaaZA
namespace Go.Proofs.Ytjkbkmbblidipaa
open Go.ChangeShapes Go.WideShapes Go.ChangeAt Go.RowKit Go.Deep

def cnt (P : Nat → Bool) : Nat → Nat
  | 0 => 0
  | k + 1 => cnt P k + if P k then 1 else 0
set_option maxRecDepth 100000 in
theorem cnt_le (P : Nat → Bool) : ∀ k, cnt P k ≤ k
  | 0 => Nat.le_refl _
  | k + 1 => by have := cnt_le P k; simp only [cnt]; split <;> omega
set_option maxRecDepth 100000 in
theorem cnt_mono {P Q : Nat → Bool} : ∀ k, (∀ p, p < k → P p = true → Q p = true) → cnt P k ≤ cnt Q k
  | 0, _ => Nat.le_refl _
  | k + 1, h => by
    have := cnt_mono k (fun p hp => h p (by omega))
    have h1 := h k (by omega)
    simp only [cnt]
    cases hP : P k
    · simp; split <;> omega
    · rw [h1 hP]; simp; exact this
set_option maxRecDepth 100000 in
theorem cnt_lt {P Q : Nat → Bool} : ∀ k, (∀ p, p < k → P p = true → Q p = true) → (∃ p, p < k ∧ P p = false ∧ Q p = true) → cnt P k < cnt Q k
  | 0, _, ⟨p, hp, _⟩ => absurd hp (by omega)
  | k + 1, h, ⟨p, hp, h1, h2⟩ => by
    simp only [cnt]
    rcases Nat.lt_or_ge p k with hlt | hge
    · have ih := cnt_lt k (fun p hp => h p (by omega)) ⟨p, hlt, h1, h2⟩
      have h3 := h k (by omega)
      cases hP : P k
      · simp; split <;> omega
      · rw [h3 hP]; simp; exact ih
    · have : p = k := by omega
      subst this
      have ih := cnt_mono p (fun q hq => h q (by omega))
      rw [h1, h2]
      simp
      omega
/-- Where a bound is less than the full zone's. -/
def below (z : Zn) (p : Nat) : Bool := decide (z.b.getD p 0 < (fulL (dm z)).getD p 0)
def rank (z : Zn) : Nat := cnt (below z) (dm z * dm z)
set_option maxRecDepth 100000 in
theorem rank_le (z : Zn) : rank z ≤ dm z * dm z := cnt_le _ _
/-- How often the zone may have been changed. -/
def Cnt (z : Zn) (ch : Nat) : Prop := (closeZ z).2 = false ∧ ch = 0 ∨ (closeZ z).2 = true ∧ ch + rank z ≤ dm z * dm z + 1
set_option maxRecDepth 100000 in
theorem Cnt.le {z : Zn} {ch : Nat} (h : Cnt z ch) : ch ≤ dm z * dm z + 1 := by rcases h with ⟨_, h⟩ | ⟨_, h⟩ <;> omega
set_option maxRecDepth 100000 in
theorem Cnt.zero (z : Zn) : Cnt z 0 := by
  have := rank_le z
  cases h : (closeZ z).2
  · exact .inl ⟨h, rfl⟩
  · exact .inr ⟨h, by omega⟩
set_option maxRecDepth 100000 in
theorem cnt_step {a b : Zn} {ch : Nat} (hb : Both a b) (hc : Cnt a ch) : Cnt (widZ a b).1 (if subZ (widZ a b).1 a = true then ch else ch + 1) := by
  obtain ⟨ha, hbv, hn⟩ := hb
  have hb : Both a b := ⟨ha, hbv, hn⟩
  obtain ⟨w1, w2, w3, w4, w5, -⟩ := wid_spec hb
  have hdw : dm (widZ a b).1 = dm a := by unfold dm; rw [w3]
  have bw : Both (widZ a b).1 a := ⟨w2, ha, w3⟩
  rcases closeZ_cases b with ⟨eb, _⟩ | ⟨L', eb, -, hL'⟩
  · rw [widZ_x0 hb eb] at bw ⊢
    rw [if_pos ((subZ_iff bw).2 SubM.self)]
    exact hc
  · rcases closeZ_cases a with ⟨ea, _⟩ | ⟨L, ea, -, hL⟩
    · have h0 : ch = 0 := by
        rcases hc with ⟨_, h⟩ | ⟨h, _⟩
        · exact h
        · rw [ea] at h; cases h
      subst h0
      rw [widZ_01 hb ea eb]
      refine .inr ⟨by rw [hL'.again hbv], ?_⟩
      have := rank_le ⟨b.N, L'⟩
      dsimp only
      split <;> omega
    · have h0 : ch + rank a ≤ dm a * dm a + 1 := by
        rcases hc with ⟨h, _⟩ | ⟨_, h⟩
        · rw [ea] at h; cases h
        · exact h
      have hok : (closeZ (widZ a b).1).2 = true := by
        obtain ⟨LW, e, _⟩ := closeZ_ok w2 (D := mt (dm a) L) (by rw [hdw]; exact hL.clo) (by rw [hdw]; exact hL.dg) (by
          rw [hdw]
          intro x y hx hy
          have g1 := (SubM.of ea).1 w4 x y hx hy
          have g2 := hL.full ha hx hy
          show _ ≤ min (mt (dm (widZ a b).1) (widZ a b).1.b x y) (ful x y)
          rw [hdw]
          omega)
        rw [e]
      refine .inr ⟨hok, ?_⟩
      have hWb : (widZ a b).1.b = widL (dm a) L' a.b := by rw [widZ_11 hb ea eb]
      have hal := ha.dim.2.2.2
      have hget : ∀ p, p < dm a * dm a → (widZ a b).1.b.getD p 0 = if L'.getD p 0 ≤ a.b.getD p 0 then a.b.getD p 0 else (fulL (dm a)).getD p 0 := fun p hp => by
        rw [hWb, getD_of (by rw [widL_len]; exact hp), widL_get]
      have hm : ∀ p, p < dm a * dm a → below (widZ a b).1 p = true → below a p = true := fun p hp h => by
        unfold below at *
        rw [decide_eq_true_iff] at *
        rw [hdw, hget p hp] at h
        split at h
        · exact h
        · omega
      unfold rank
      rw [hdw]
      split
      · have := cnt_mono _ hm
        unfold rank at h0
        omega
      · rename_i hs
        have hlt : cnt (below (widZ a b).1) (dm a * dm a) < cnt (below a) (dm a * dm a) := by
          refine cnt_lt _ hm ?_
          rw [subZ_iff bw, hdw] at hs
          rcases Classical.em (∃ x y, x < dm a ∧ y < dm a ∧ mt (dm a) a.b x y < mt (dm a) (widZ a b).1.b x y) with ⟨x, y, hx, hy, hlt⟩ | hno
          · have hp := idx_lt hx hy
            refine ⟨x * dm a + y, hp, ?_⟩
            unfold mt at hlt
            unfold below
            rw [decide_eq_false_iff_not, decide_eq_true_iff, hdw]
            have hg := hget _ hp
            rw [hg] at hlt ⊢
            split at hlt
            · omega
            · rename_i hh
              rw [if_neg hh]
              exact ⟨by omega, hlt⟩
          · refine absurd (SubM.mono (SubM.self (x := (widZ a b).1)) ?_) hs
            rw [hdw]
            intro x y hx hy
            rcases Int.lt_or_le (mt (dm a) a.b x y) (mt (dm a) (widZ a b).1.b x y) with h | h
            · exact absurd ⟨x, y, hx, hy, h⟩ hno
            · exact h
        unfold rank at h0
        omega
def eZn : El ZnX := ⟨fun x => znC x.1 x.2.1 x.2.2, 2, by omega, fun _ => rfl, fun x u hu => by
  simp only [znC, List.mem_cons, List.not_mem_nil, or_false] at hu
  rcases hu with rfl | rfl <;> rfl⟩
/-- The zone in work. -/
structure WSt (H : Heap) (g4 : Nat) (now : Zn) (A : Option Addr) (ca : Nat) (H' : Heap) : Prop where
  ext : Ext H H'
  b4 : Blk H' g4 (znC now A ca) 27
  rd : RdM eInt [g4] H' A now.b
  q4 : H.size ≤ g4
set_option maxRecDepth 100000 in
theorem zStops_walk (l : List ZnX) (B : Option Addr) (cb : Nat) (H : Heap) (hB : Rd eZn H B l) (hZ : ∀ x ∈ l, Rd eInt H x.2.1 x.1.b) :
    CallsH Try.prog 7 [.slice B l.length cb] H fun v H' => v = .bool true ∧ Ext H H' := by
  refine callsH_of Try.func7 rfl Try.ntmps7 (Nat.le_of_ble_eq_true rfl) ?_
  refine wpSeq fun F1 hF1 => ?_
  refine wpRegion ?_
  refine seqQ rfl rfl (yAssign (v := .bool _) rfl rfl) ?_
  refine seqNil ?_
  refine hF1 _ _ ?_; clear hF1
  refine wpSeq fun F2 hF2 => ?_
  refine wpSeq fun F3 hF3 => ?_
  refine wpRegion ?_
  -- e slot 9: call F12<farandole/farandolelaw13.awake> 
  refine seqE rfl rfl (stepCall rfl Try.call12 rfl ?_)
  refine (awake_c _).mono ?_
  rintro v Ha ⟨rfl, hE⟩
  refine seqQ rfl rfl (yNot rfl rfl) ?_
  refine seqQ rfl rfl (yMove (v := .bool false) rfl rfl) ?_
  refine seqQ rfl rfl (yMove (v := .slice _ _ _) rfl rfl) ?_
  refine seqQ rfl rfl (yLen rfl Try.underlying58 rfl) ?_
  refine seqQ rfl rfl (yEql rfl rfl rfl) ?_
  refine seqQ rfl rfl (yPickF (v := .bool _) rfl rfl rfl) ?_
  -- guard t16
  refine seqMeet 12 [16, 17, 18, 19, 20] 20 (decide ((l.length : Int) = 0 ∨ 40 < (l.length : Int))) (fun hm4 => ?_) (fun J4 => ?_)
  · skip
    first | refine seqG rfl rfl rfl rfl (fun h16 => ?_) (fun h16 => ?_) | refine seqGB rfl rfl rfl rfl (fun h16 => ?_) (fun h16 => ?_)
    · skip
      refine seqU rfl rfl ?_
      refine seqU rfl rfl ?_
      refine seqU rfl rfl ?_
      refine seqQ rfl rfl (yPickT (v := .bool _) rfl rfl rfl) ?_
      exact hm4 _ (by repeat (first | (with_reducible exact Agree.refl _ _) | refine Agree.upd ?_ rfl | refine Agree.over ?_ rfl)) (by show Value.bool _ = Value.bool _; congr 1; grind)
    · skip
      refine seqQ rfl rfl (yMove (v := .slice _ _ _) rfl rfl) ?_
      refine seqQ rfl rfl (yLen rfl Try.underlying58 rfl) ?_
      refine seqQ rfl rfl (yGtr rfl rfl rfl) ?_
      refine seqQ rfl rfl (yPickF (v := .bool _) rfl rfl rfl) ?_
      exact hm4 _ (by repeat (first | (with_reducible exact Agree.refl _ _) | refine Agree.upd ?_ rfl | refine Agree.over ?_ rfl)) (by show Value.bool _ = Value.bool _; congr 1; grind)
  refine seqNil ?_
  refine hF3 _ _ ?_; clear hF3
  -- if t20
  refine wpIf rfl (fun hlen => ?_) (fun hlen => ?_)
  · skip
    refine wpSeq fun F5 hF5 => ?_
    refine wpRegion ?_
    -- e slot 21: call F12<farandole/farandolelaw13.awake> 
    refine seqE rfl rfl (stepCall rfl Try.call12 rfl ?_)
    refine (awake_c _).mono ?_
    rintro v Hb ⟨rfl, hxb⟩
    refine seqQ rfl rfl (yAssign (v := .bool _) rfl rfl) ?_
    refine seqNil ?_
    refine hF5 _ _ ?_; clear hF5
    -- ret
    refine wpRet (fin1 (v := .bool _) rfl rfl ?_)
    exact ⟨rfl, hE.trans hxb⟩
  · skip
    have hpos : 0 < l.length := by omega
    have h40 : l.length ≤ 40 := by omega
    have hz0 := hZ l[0] (List.getElem_mem hpos)
    obtain ⟨p, rfl, hp⟩ := (hB.ext hE).at hpos
    refine wpSkip ?_
    refine hF2 _ _ ?_; clear hF2
    refine wpSeq fun F6 hF6 => ?_
    refine wpRegion ?_
    refine seqQ rfl rfl (yMove (v := .slice _ _ _) rfl rfl) ?_
    refine seqQ rfl rfl (yIdx rfl Try.underlying58 Try.sizeOf24 rfl rfl (show (0 : Int) = ((0 : Nat) : Int) from rfl) hpos) ?_
    refine seqQ rfl rfl (yFieldAddr rfl Try.underlying24 rfl Try.sizeOf3 rfl rfl) ?_
    refine seqQ rfl rfl (yLoad rfl Try.underlying3 rfl rfl (hp 0 _ rfl)) ?_
    refine seqQ rfl rfl (yAssign (v := .int _ _) rfl rfl) ?_
    refine seqNil ?_
    refine hF6 _ _ ?_; clear hF6
    refine wpSeq fun F7 hF7 => ?_
    refine wpRegion ?_
    refine seqQ rfl rfl (yMove (v := .slice _ _ _) rfl rfl) ?_
    refine seqQ rfl rfl (yIdx rfl Try.underlying58 Try.sizeOf24 rfl rfl (show (0 : Int) = ((0 : Nat) : Int) from rfl) hpos) ?_
    refine seqQ rfl rfl (yLoadC (cs := znC l[0].1 l[0].2.1 l[0].2.2) rfl Try.underlying24 rfl Try.sizeOf24 rfl hp) ?_
    -- e slot 29: call F15<farandole/farandolelaw13.own> t28
    refine seqE rfl rfl (stepCall rfl Try.call15 rfl ?_)
    refine (own_c l[0].1 l[0].2.1 l[0].2.2 _).mono ?_
    rintro v Hc ⟨rfl, hxc⟩
    refine seqN rfl rfl (nAlloc rfl Try.zeroValue27 rfl) (fun g4 H4 hx4 hB4 hg4 hl4 => ?_)
    -- e slot None: store T27 t4 t29
    refine seqE0 rfl rfl (stepStoreB rfl (by kernel_rfl) rfl rfl rfl hB4 rfl ?_)
    intro H5 hB5 hK5
    have x5 := afterStore hxc hx4 hg4 hK5
    have st : WSt H g4 l[0].1 l[0].2.1 l[0].2.2 H5 := ⟨hE.trans x5, hB5, (RdM.old hz0 ((hE.trans hxc).trans hx4) (by have := hE.size; have := hxc.size; simp; omega)).tr (Tr.store hK5 (by simp)), by have := hE.size; have := hxc.size; omega⟩
    clear hxc hx4 hB4 hB5 hK5 x5 hp
    refine seqNil ?_
    refine hF7 _ _ ?_; clear hF7
    refine wpSeq fun F8 hF8 => ?_
    refine wpRegion ?_
    refine seqQ rfl rfl (yAssign (v := .int _ _) rfl rfl) ?_
    refine seqNil ?_
    refine hF8 _ _ ?_; clear hF8
    refine wpSeq fun F9 hF9 => ?_
    refine wpSeq fun F10 hF10 => ?_
    refine wpRegion ?_
    refine seqQ rfl rfl (yMove (v := .slice _ _ _) rfl rfl) ?_
    refine seqQ rfl rfl (yLen rfl Try.underlying58 rfl) ?_
    refine seqQ rfl rfl (yMove (v := .int _ _) rfl rfl) ?_
    refine seqNil ?_
    refine hF10 _ _ ?_; clear hF10
    -- loop
    refine wpBlock ?_
    refine wpLoopS [2, 5, 6, 7, 8, 32, 33, 34, 35, 36, 37, 38, 39, 40, 41, 42, 43, 44, 45, 46, 47, 48, 49, 50, 51, 52, 53, 54, 55, 56, 57, 58, 59, 60, 61, 62, 63, 64, 65, 66, 67, 68, 69, 70, 71, 72, 73, 74, 75, 76, 77, 78, 79, 80, 81, 82, 83, 84, 85, 86, 87, 88, 89, 90, 91, 92, 93] (fun x : Nat × Nat × Zn × Option Addr × Nat => [(32, .int .i64 x.1), (5, .int .i64 x.2.1)]) (fun x H' => x.1 ≤ l.length ∧ x.2.1 ≤ x.1 ∧ WSt H g4 x.2.2.1 x.2.2.2.1 x.2.2.2.2 H' ∧ (x.1 = 0 → x.2.2.1 = l[0].1) ∧ (0 < x.1 → ValZ x.2.2.1) ∧ x.2.2.1.N = l[0].1.N ∧ (0 < x.1 → 1 ≤ l[0].1.N ∧ l[0].1.N ≤ 3) ∧ Cnt x.2.2.1 x.2.1) (fun x => l.length - x.1) (0, 0, l[0].1, l[0].2.1, l[0].2.2) ⟨rfl, rfl, trivial⟩ ⟨Nat.zero_le _, Nat.le_refl _, st, fun _ => rfl, fun h => absurd h (by simp), rfl, fun h => absurd h (by simp), Cnt.zero _⟩ ?_
    rintro ⟨i, ch, now, A', ca'⟩ J Hi ⟨hi, hch, st1, f0, fv, fn, f13, fc⟩
    dsimp only at hi hch st1 f0 fv fn f13 fc
    clear st
    refine wpSeq fun F11 hF11 => ?_
    refine wpRegion ?_
    refine seqQ rfl rfl (yLss rfl rfl rfl) ?_
    refine seqNil ?_
    refine hF11 _ _ ?_; clear hF11
    refine wpSeq fun F12 hF12 => ?_
    -- if t33
    refine wpIf rfl (fun hlt => ?_) (fun hlt => ?_)
    · skip
      have hi : i < l.length := by dsimp only at hlt; omega
      have hzi := hZ l[i] (List.getElem_mem hi)
      have e1 := st1.ext
      obtain ⟨q, eq, hq⟩ := (hB.ext e1).at hi
      obtain rfl := Option.some.inj eq
      refine wpSkip ?_
      refine hF12 _ _ ?_; clear hF12
      refine wpSeq fun F13 hF13 => ?_
      refine wpBlock ?_
      refine wpSeq fun F14 hF14 => ?_
      refine wpRegion ?_
      refine seqQ rfl rfl (yMove (v := .int _ _) rfl rfl) ?_
      refine seqQ rfl rfl (yAssign (v := .int _ _) rfl rfl) ?_
      refine seqNil ?_
      refine hF14 _ _ ?_; clear hF14
      refine wpSeq fun F15 hF15 => ?_
      refine wpSeq fun F16 hF16 => ?_
      refine wpRegion ?_
      refine seqQ rfl rfl (yMove (v := .int _ _) rfl rfl) ?_
      refine seqQ rfl rfl (yLss rfl rfl rfl) ?_
      -- guard t37
      refine seqMeet 6 [37, 38, 39, 40] 40 (decide (l[0].1.N < 1 ∨ 3 < l[0].1.N)) (fun hm17 => ?_) (fun J17 => ?_)
      · skip
        first | refine seqG rfl rfl rfl rfl (fun h37 => ?_) (fun h37 => ?_) | refine seqGB rfl rfl rfl rfl (fun h37 => ?_) (fun h37 => ?_)
        · skip
          refine seqU rfl rfl ?_
          refine seqU rfl rfl ?_
          refine seqQ rfl rfl (yPickT (v := .bool _) rfl rfl rfl) ?_
          exact hm17 _ (by repeat (first | (with_reducible exact Agree.refl _ _) | refine Agree.upd ?_ rfl | refine Agree.over ?_ rfl)) (by show Value.bool _ = Value.bool _; congr 1; grind)
        · skip
          refine seqQ rfl rfl (yMove (v := .int _ _) rfl rfl) ?_
          refine seqQ rfl rfl (yGtr rfl rfl rfl) ?_
          refine seqQ rfl rfl (yPickF (v := .bool _) rfl rfl rfl) ?_
          exact hm17 _ (by repeat (first | (with_reducible exact Agree.refl _ _) | refine Agree.upd ?_ rfl | refine Agree.over ?_ rfl)) (by show Value.bool _ = Value.bool _; congr 1; grind)
      -- guard t41
      refine seqMeet 15 [41, 42, 43, 44, 45, 46, 47, 48, 49] 49 (decide ((l[0].1.N < 1 ∨ 3 < l[0].1.N) ∨ ¬ l[i].1.N = l[0].1.N)) (fun hm18 => ?_) (fun J18 => ?_)
      · skip
        first | refine seqG rfl rfl rfl rfl (fun h41 => ?_) (fun h41 => ?_) | refine seqGB rfl rfl rfl rfl (fun h41 => ?_) (fun h41 => ?_)
        · skip
          refine seqU rfl rfl ?_
          refine seqU rfl rfl ?_
          refine seqU rfl rfl ?_
          refine seqU rfl rfl ?_
          refine seqU rfl rfl ?_
          refine seqU rfl rfl ?_
          refine seqU rfl rfl ?_
          refine seqQ rfl rfl (yPickT (v := .bool _) rfl rfl rfl) ?_
          exact hm18 _ (by repeat (first | (with_reducible exact Agree.refl _ _) | refine Agree.upd ?_ rfl | refine Agree.over ?_ rfl)) (by show Value.bool _ = Value.bool _; congr 1; grind)
        · skip
          refine seqQ rfl rfl (yMove (v := .slice _ _ _) rfl rfl) ?_
          refine seqQ rfl rfl (yMove (v := .int _ _) rfl rfl) ?_
          refine seqQ rfl rfl (yIdx rfl Try.underlying58 Try.sizeOf24 rfl rfl rfl hi) ?_
          refine seqQ rfl rfl (yFieldAddr rfl Try.underlying24 rfl Try.sizeOf3 rfl rfl) ?_
          refine seqQ rfl rfl (yLoad rfl Try.underlying3 rfl rfl (hq 0 _ rfl)) ?_
          refine seqQ rfl rfl (yMove (v := .int _ _) rfl rfl) ?_
          refine seqQ rfl rfl (yNeq rfl rfl rfl) ?_
          refine seqQ rfl rfl (yPickF (v := .bool _) rfl rfl rfl) ?_
          exact hm18 _ (by repeat (first | (with_reducible exact Agree.refl _ _) | refine Agree.upd ?_ rfl | refine Agree.over ?_ rfl)) (by show Value.bool _ = Value.bool _; congr 1; grind)
      -- guard t50
      refine seqGB rfl rfl rfl rfl (fun hbad => ?_) (fun hbad => ?_)
      · skip
        refine seqU rfl rfl ?_
        refine seqU rfl rfl ?_
        refine seqU rfl rfl ?_
        refine seqU rfl rfl ?_
        refine seqU rfl rfl ?_
        refine seqU rfl rfl ?_
        refine seqQ rfl rfl (yPickT (v := .bool _) rfl rfl rfl) ?_
        refine seqNil ?_
        refine hF16 _ _ ?_; clear hF16
        -- if t57
        refine wpT rfl ?_
        refine wpSeq fun F19 hF19 => ?_
        refine wpRegion ?_
        refine seqQ rfl rfl (yAssign (v := .bool _) rfl rfl) ?_
        refine seqNil ?_
        refine hF19 _ _ ?_; clear hF19
        -- ret
        refine wpRet (fin1 (v := .bool _) rfl rfl ?_)
        exact ⟨rfl, e1⟩
      · skip
        have hbad : 1 ≤ l[0].1.N ∧ l[0].1.N ≤ 3 ∧ l[i].1.N = l[0].1.N := by
          rw [decide_eq_false_iff_not] at hbad
          omega
        obtain ⟨n1, n3, ni⟩ := hbad
        refine seqQ rfl rfl (yMove (v := .slice _ _ _) rfl rfl) ?_
        refine seqQ rfl rfl (yMove (v := .int _ _) rfl rfl) ?_
        refine seqQ rfl rfl (yIdx rfl Try.underlying58 Try.sizeOf24 rfl rfl rfl hi) ?_
        refine seqQ rfl rfl (yLoadC (cs := znC l[i].1 l[i].2.1 l[i].2.2) rfl Try.underlying24 rfl Try.sizeOf24 rfl hq) ?_
        -- e slot 55: call F28<farandole/farandoleref13.Valid> t54
        refine seqE rfl rfl (stepCall rfl Try.call28 rfl ?_)
        refine (rvalid_c l[i].1 l[i].2.1 l[i].2.2 _ (hzi.ext e1)).mono ?_
        rintro v Hj ⟨rfl, hxj⟩
        refine seqQ rfl rfl (yNot rfl rfl) ?_
        refine seqQ rfl rfl (yPickF (v := .bool _) rfl rfl rfl) ?_
        refine seqNil ?_
        refine hF16 _ _ ?_; clear hF16
        -- if t57
        refine wpCond rfl (fun hv => ?_) (fun hv => ?_)
        · skip
          refine wpSeq fun F20 hF20 => ?_
          refine wpRegion ?_
          refine seqQ rfl rfl (yAssign (v := .bool _) rfl rfl) ?_
          refine seqNil ?_
          refine hF20 _ _ ?_; clear hF20
          -- ret
          refine wpRet (fin1 (v := .bool _) rfl rfl ?_)
          exact ⟨rfl, e1.trans hxj⟩
        · skip
          have hv : ValZ l[i].1 := by simpa using hv
          have hnow : ValZ now := by
            rcases Nat.eq_zero_or_pos i with h | h
            · rw [f0 h]; subst h; exact hv
            · exact fv h
          have hbo : Both now l[i].1 := ⟨hnow, hv, by rw [fn, ni]⟩
          have hcs := cnt_step hbo fc
          obtain ⟨w1, w2, w3, w4, w5, -⟩ := wid_spec hbo
          obtain ⟨⟨nx, en⟩, hwz⟩ : ∃ r, widZ now l[i].1 = r := ⟨_, rfl⟩
          rw [hwz] at hcs w1 w2 w3 w4 w5
          dsimp only at hcs w1 w2 w3 w4 w5
          subst w1
          have hb1 : Both now nx := ⟨hnow, w2, w3.symm⟩
          have hb2 : Both l[i].1 nx := ⟨hv, w2, by rw [w3, fn, ni]⟩
          have hs1 := (subZ_iff hb1).2 w4
          have hs2 := (subZ_iff hb2).2 (by rw [← hbo.dm]; exact w5)
          have b4 := st1.b4.ext hxj
          have rd := st1.rd.tr (Tr.of_ext hxj _)
          have e2 := e1.trans hxj
          have hz8 : now.N ≤ 8 := by omega
          have li8 : l[i].1.N ≤ 8 := by omega
          have nx8 : nx.N ≤ 8 := by omega
          refine wpSkip ?_
          refine hF15 _ _ ?_; clear hF15
          refine wpSeq fun F21 hF21 => ?_
          refine wpRegionD Try_mixed [.q, .q, .q, .q, .q, .e, .e, .q, .q, .q, .n, .e, .q] 12 [0, 0, 0, 6, 14, 30, 63, 127, 255, 255, 0, 1535, 4095] [] (by kernel_rfl) _ rfl [0, 1, 2, 3, 4, 5, 6, 7, 8, 9, 10, 11] rfl (by simp) ?_
          refine lexQ rfl rfl rfl rfl (fun H hM => (yLoadB (b4.ext hM.ext) rfl Try.underlying27 rfl Try.sizeOf27 rfl)) ?_
          refine lexQ rfl rfl rfl rfl (fun H hM => (yMove (v := .slice _ _ _) rfl rfl)) ?_
          refine lexQ rfl rfl rfl rfl (fun H hM => (yMove (v := .int _ _) rfl rfl)) ?_
          refine lexQ rfl rfl rfl rfl (fun H hM => (yIdx rfl Try.underlying58 Try.sizeOf24 rfl rfl rfl hi)) ?_
          refine lexQ rfl rfl rfl rfl (fun H hM => (yLoadC (cs := znC l[i].1 l[i].2.1 l[i].2.2) rfl Try.underlying24 rfl Try.sizeOf24 rfl (fun j u hu => hM.ext.cell (hxj.cell (hq j u hu))))) ?_
          -- e slot 64: call F15<farandole/farandolelaw13.own> t63
          refine lexX rfl rfl rfl rfl (by simp) (fun H64 hX64 hM64 hN64 => stepCall rfl Try.call15 rfl ?_)
          refine (own_c l[i].1 l[i].2.1 l[i].2.2 _).mono ?_
          rintro v K1 ⟨rfl, k1⟩
          refine ⟨k1, fun _ => ?_⟩
          -- e slot 65: call F33<farandole/zone.Widen> t59 t64
          refine lexE rfl rfl rfl rfl (fun H65 hX65 hM65 hN65 => stepCall rfl Try.call33 rfl ?_)
          have kk := (hX64.trans k1).trans hX65
          have hc := widen_c now l[i].1 A' l[i].2.1 ca' l[i].2.2 _ (rd.rd.ext kk) ((hzi.ext e2).ext kk) hz8
          rw [hwz] at hc
          dsimp only at hc
          refine hc.mono ?_
          rintro v K3 ⟨k3, u, rfl, A1, c1, rfl, ho⟩
          refine lexFr (F := (Value.slice A1 nx.b.length c1).ownBlock.toList) k3 (fun b hb => by rw [Option.mem_toList] at hb; exact ho.lt b hb) (by simp) ?_
          refine lexQ rfl rfl rfl rfl (fun H hM => (yMove (v := .tuple _) rfl rfl)) ?_
          refine lexQ rfl rfl rfl rfl (fun H hM => (yExtract (v := .agg _) rfl rfl rfl)) ?_
          refine lexQ rfl rfl rfl rfl (fun H hM => (yExtract (v := .int _ _) rfl rfl rfl)) ?_
          refine lexNB rfl rfl rfl rfl (nAlloc rfl Try.zeroValue27 rfl) (fun g7 hg7 hne7 => ?_)
          -- e slot None: store T27 t7 t66
          refine lexES0 rfl rfl rfl rfl (by first | assumption | omega) (by first | (dsimp only; rfl) | kernel_rfl) (by simp) (fun Hs hXs hMs hBs hFs => stepStoreB rfl (by kernel_rfl) rfl rfl rfl hBs rfl ?_)
          intro K4 b7 hK4
          have nn : ∀ b, (Value.slice A1 nx.b.length c1).ownBlock = some b → b ≠ g7 := fun b hb e => hFs (List.mem_append.2 (.inl (by rw [Option.mem_toList, hb, e])))
          have xs := hXs
          refine ⟨hK4, fun b hb => by rw [List.append_nil, Option.mem_toList] at hb; have := (ho.lt b hb).2; have := xs.size; omega, ?_⟩
          -- tail
          refine lexNil (fun K5 hX5 hM5 hN5 => ?_)
          have x5 := (((kk.trans k3).trans xs).mine hK4 (by simp; omega)).trans hX5
          replace b7 := b7.ext hX5
          have l4 := b4.lt
          have hkk := kk.size
          have ro := ((ho.ext xs).keep hK4 (fun b hb => by simpa using nn b hb)).ext hX5
          have rx := ro.rdM (M := [g4]) (by simp; omega)
          have n74 : g7 ≠ g4 := by omega
          replace b4 := b4.ext x5
          replace rd := rd.tr (Tr.of_ext x5 _)
          replace e2 := e2.trans x5
          obtain ⟨q', eq', hq'⟩ := (hB.ext e2).at hi
          obtain rfl := Option.some.inj eq'
          clear hX64 hX65 k1 k3 kk xs hXs hK4 hX5 hN5 hM5 ho hc nn x5 hxj hq e1 hkk ro l4
          refine seqQ rfl rfl (yAssign (v := .int _ _) rfl rfl) ?_
          refine seqNil ?_
          refine hF21 _ _ ?_; clear hF21
          refine wpSeq fun F22 hF22 => ?_
          refine wpSeq fun F23 hF23 => ?_
          refine wpRegionD Try_mixed [.q, .q, .q, .q, .q, .e, .q, .q, .q, .q, .q, .q, .q, .e, .q, .e, .q, .q] 15 [0, 1, 3, 7, 7, 31, 63, 127, 255, 511, 511, 2047, 4095, 8191, 511, 32767, 65535, 131071] [] (by kernel_rfl) _ rfl [0, 1, 2, 3, 4, 5, 6, 7, 8, 9, 10, 11, 12, 13, 14] rfl (by simp) ?_
          refine lexQ rfl rfl rfl rfl (fun H hM => (yMove (v := .int _ _) rfl rfl)) ?_
          refine lexQ rfl rfl rfl rfl (fun H hM => (yNeq rfl rfl rfl)) ?_
          refine lexQ rfl rfl rfl rfl (fun H hM => (yMove (v := .bool false) rfl rfl)) ?_
          refine lexQ rfl rfl rfl rfl (fun H hM => (yLoadB (b4.ext hM.ext) rfl Try.underlying27 rfl Try.sizeOf27 rfl)) ?_
          refine lexQ rfl rfl rfl rfl (fun H hM => (yLoadB (b7.ext hM.ext) rfl Try.underlying27 rfl Try.sizeOf27 rfl)) ?_
          -- e slot 73: call F34<farandole/zone.Sub> t71 t72
          refine lexX0 rfl rfl rfl rfl rfl (by simp) (fun hM73 => stepCall rfl Try.call34 rfl ?_)
          refine (sub_c now nx A' A1 ca' c1 _ rd.rd rx.rd hz8).mono ?_
          rintro v K6 ⟨rfl, kE⟩
          refine ⟨kE, fun _ => ?_⟩
          rw [hs1]
          refine lexQ rfl rfl rfl rfl (fun H hM => (yNot rfl rfl)) ?_
          refine lexQ rfl rfl rfl rfl (fun H hM => (yPickF (v := .bool _) rfl rfl rfl)) ?_
          refine lexQ rfl rfl rfl rfl (fun H hM => (yMove (v := .bool false) rfl rfl)) ?_
          refine lexQ rfl rfl rfl rfl (fun H hM => (yMove (v := .slice _ _ _) rfl rfl)) ?_
          refine lexQ rfl rfl rfl rfl (fun H hM => (yMove (v := .int _ _) rfl rfl)) ?_
          refine lexQ rfl rfl rfl rfl (fun H hM => (yIdx rfl Try.underlying58 Try.sizeOf24 rfl rfl rfl hi)) ?_
          refine lexQ rfl rfl rfl rfl (fun H hM => (yLoadC (cs := znC l[i].1 l[i].2.1 l[i].2.2) rfl Try.underlying24 rfl Try.sizeOf24 rfl (fun j u hu => hM.ext.cell (hq' j u hu)))) ?_
          -- e slot 81: call F15<farandole/farandolelaw13.own> t80
          refine lexX0 rfl rfl rfl rfl rfl (by simp) (fun hM81 => stepCall rfl Try.call15 rfl ?_)
          refine (own_c l[i].1 l[i].2.1 l[i].2.2 _).mono ?_
          rintro v K7 ⟨rfl, k7⟩
          refine ⟨k7, fun _ => ?_⟩
          replace kE := kE.trans k7
          refine lexQ rfl rfl rfl rfl (fun H hM => (yLoadB (b7.ext hM.ext) rfl Try.underlying27 rfl Try.sizeOf27 rfl)) ?_
          -- tail
          refine lexNil0 rfl (fun hM => ?_)
          -- e slot 83: call F34<farandole/zone.Sub> t81 t82
          refine seqE rfl rfl (stepCall rfl Try.call34 rfl ?_)
          refine (sub_c l[i].1 nx l[i].2.1 A1 l[i].2.2 c1 _ ((hzi.ext e2).ext kE) (rx.rd.ext kE) li8).mono ?_
          rintro v K8 ⟨rfl, k8⟩
          rw [hs2]
          replace kE := kE.trans k8
          replace b4 := b4.ext kE
          replace b7 := b7.ext kE
          replace rd := rd.tr (Tr.of_ext kE _)
          replace rx := rx.tr (Tr.of_ext kE _)
          replace e2 := e2.trans kE
          clear k7 k8 kE
          refine seqQ rfl rfl (yNot rfl rfl) ?_
          refine seqQ rfl rfl (yPickF (v := .bool _) rfl rfl rfl) ?_
          refine seqNil ?_
          refine hF23 _ _ ?_; clear hF23
          -- if t85
          refine wpF rfl ?_
          refine wpSkip ?_
          refine hF22 _ _ ?_; clear hF22
          refine wpSeq fun F24 hF24 => ?_
          refine wpSeq fun F25 hF25 => ?_
          refine wpRegion ?_
          refine seqQ rfl rfl (yLoadB b7 rfl Try.underlying27 rfl Try.sizeOf27 rfl) ?_
          refine seqQ rfl rfl (yLoadB b4 rfl Try.underlying27 rfl Try.sizeOf27 rfl) ?_
          -- e slot 88: call F34<farandole/zone.Sub> t86 t87
          refine seqE rfl rfl (stepCall rfl Try.call34 rfl ?_)
          refine (sub_c nx now A1 A' c1 ca' _ rx.rd rd.rd nx8).mono ?_
          rintro v K9 ⟨rfl, k9⟩
          replace b4 := b4.ext k9
          replace b7 := b7.ext k9
          replace rx := rx.tr (Tr.of_ext k9 _)
          replace e2 := e2.trans k9
          have q4 := st1.q4
          clear k9 rd st1
          refine seqQ rfl rfl (yNot rfl rfl) ?_
          refine seqNil ?_
          refine hF25 _ _ ?_; clear hF25
          -- if t89
          refine wpCond rfl (fun hs => ?_) (fun hs => ?_)
          · skip
            have hs : ¬ subZ nx now = true := by simpa using hs
            rw [if_neg hs] at hcs
            refine wpRegion ?_
            refine seqQ rfl rfl (yMove (v := .int _ _) rfl rfl) ?_
            refine seqQ rfl rfl (yAddE rfl rfl rfl (by dsimp only; unfold In64; omega) (Int.natCast_succ ch).symm) ?_
            refine seqQ rfl rfl (yAssign (v := .int _ _) rfl rfl) ?_
            refine seqNil ?_
            refine hF24 _ _ ?_; clear hF24
            refine wpRegion ?_
            refine seqQ rfl rfl (yLoadB b7 rfl Try.underlying27 rfl Try.sizeOf27 rfl) ?_
            -- e slot None: store T27 t4 t92
            refine seqE0 rfl rfl (stepStoreB rfl (by kernel_rfl) rfl rfl rfl b4 rfl ?_)
            intro K10 b10 hK10
            refine seqNil ?_
            refine hF13 _ _ ?_; clear hF13
            refine wpRegion ?_
            refine seqQ rfl rfl (yAdd rfl rfl rfl (by unfold In64; omega)) ?_
            refine seqQ rfl rfl (yMove (v := .int _ _) rfl rfl) ?_
            refine seqNil ?_
            -- end loop
            exact loopEnd (i + 1, ch + 1, nx, A1, c1) (by repeat (first | (with_reducible exact Agree.refl _ _) | refine Agree.upd ?_ rfl | refine Agree.over ?_ rfl)) (by dsimp only; omega) ⟨rfl, rfl, trivial⟩ ⟨hi, by dsimp only; omega, ⟨e2.mine hK10 (by simpa using q4), b10, rx.tr (Tr.store hK10 (by simp)), q4⟩, fun h => absurd h (by simp), fun _ => w2, w3.trans fn, fun _ => ⟨n1, n3⟩, hcs⟩
          · skip
            have hs : subZ nx now = true := by simpa using hs
            rw [if_pos hs] at hcs
            refine wpSkip ?_
            refine hF24 _ _ ?_; clear hF24
            refine wpRegion ?_
            refine seqQ rfl rfl (yLoadB b7 rfl Try.underlying27 rfl Try.sizeOf27 rfl) ?_
            -- e slot None: store T27 t4 t92
            refine seqE0 rfl rfl (stepStoreB rfl (by kernel_rfl) rfl rfl rfl b4 rfl ?_)
            intro K10 b10 hK10
            refine seqNil ?_
            refine hF13 _ _ ?_; clear hF13
            refine wpRegion ?_
            refine seqQ rfl rfl (yAdd rfl rfl rfl (by unfold In64; omega)) ?_
            refine seqQ rfl rfl (yMove (v := .int _ _) rfl rfl) ?_
            refine seqNil ?_
            -- end loop
            exact loopEnd (i + 1, ch, nx, A1, c1) (by repeat (first | (with_reducible exact Agree.refl _ _) | refine Agree.upd ?_ rfl | refine Agree.over ?_ rfl)) (by dsimp only; omega) ⟨rfl, rfl, trivial⟩ ⟨hi, by dsimp only; omega, ⟨e2.mine hK10 (by simpa using q4), b10, rx.tr (Tr.store hK10 (by simp)), q4⟩, fun h => absurd h (by simp), fun _ => w2, w3.trans fn, fun _ => ⟨n1, n3⟩, hcs⟩
    · skip
      have hi : 0 < i := by dsimp only at hlt; omega
      obtain ⟨n1, n3⟩ := f13 hi
      have hsq := sq64 (n := l[0].1.N) (by omega) (by omega)
      have hle := fc.le
      refine wpExit ?_
      refine hF9 _ _ ?_; clear hF9
      refine wpSeq fun F26 hF26 => ?_
      refine wpRegion ?_
      refine seqQ rfl rfl (yMove (v := .int _ _) rfl rfl) ?_
      refine seqQ rfl rfl (yMove (v := .int _ _) rfl rfl) ?_
      refine seqQ rfl rfl (yAdd rfl rfl rfl (by unfold In64; omega)) ?_
      refine seqQ rfl rfl (yMove (v := .int _ _) rfl rfl) ?_
      refine seqQ rfl rfl (yAdd rfl rfl rfl (by unfold In64; omega)) ?_
      refine seqQ rfl rfl (yMul rfl rfl rfl hsq.1) ?_
      refine seqQ rfl rfl (yAdd rfl rfl rfl (by unfold In64; omega)) ?_
      refine seqQ rfl rfl (yLeq rfl rfl rfl) ?_
      refine seqQ rfl rfl (yAssign (v := .bool _) rfl rfl) ?_
      refine seqNil ?_
      refine hF26 _ _ ?_; clear hF26
      -- ret
      refine wpRet (fin1 (v := .bool _) rfl rfl ?_)
      refine ⟨?_, st1.ext⟩
      congr 1
      rw [decide_eq_true_iff]
      have e := (fv hi).succ
      rw [fn] at e
      rw [e]
      have : ((dm now : Nat) : Int) * (dm now : Int) = ((dm now * dm now : Nat) : Int) := (Int.natCast_mul _ _).symm
      rw [this]
      show (ch : Int) ≤ _
      omega
set_option maxRecDepth 100000 in
theorem opn_zns (W : World) : Opn Try.prog W 58 1 (fun a : Option Addr × Nat × List ZnX => [.slice a.1 a.2.2.length a.2.1]) (fun a => Rd eZn W.heap a.1 a.2.2 ∧ (∀ x ∈ a.2.2, ZnOk W x) ∧ a.2.2.length ≤ a.2.1 ∧ a.2.1 ≤ maxLen) := opn_slice (c := eZn) Try.underlying58 (by kernel_rfl) (opn_zn W)
set_option maxRecDepth 100000 in
set_option maxRecDepth 100000 in
theorem zoneStops_lifted (os : Os) (started : os.Started) (H : Type) (enc : TypeId × Value → H) :
    ReturnsInHanded {} Try.checked os 7 .any (Rows.zoneStopsSpec.pre6 enc Try.prog Try.f7 Rows.zoneStopsRow.domain false) (Rows.zoneStopsSpec.post enc Try.prog Try.f7 false true false false) := by
  refine law_lifted started Rows.zoneStopsSpec rfl (by kernel_rfl) Try.func7 rfl
    (fun ds h => by match ds, h with | [_], _ => rfl) (of_decide_eq_true (by kernel_rfl))
    (ChangeSpec.witness6 (enc := enc) (C := Try.checked) false ⟨#[], #[.slice none 0 0], []⟩ 8 (by kernel_rfl) (by kernel_rfl) (by kernel_rfl) (by kernel_rfl)) ?_
  intro W base args ds p hval hA
  rw [Try.params7] at hA hval
  obtain ⟨v0, d0, rfl, rfl, h0⟩ := trodAll_one hA
  have g0 := hval 0 _ v0 rfl rfl
  obtain ⟨⟨B, cb, l⟩, rfl, kB, hx, -⟩ := (opn_zns W).one (one_slice Try.underlying58 g0) h0
  exact zStops_walk l B cb W.heap kB (fun x hxl => (hx x hxl).1)
set_option maxRecDepth 100000 in
theorem zoneStops_holds : Rows.ZoneStopsSaid :=
  OpenClaim.holds_of_wide 7 Try.f7 rfl rfl rfl rfl rfl rfl rfl ⟨rfl, rfl, rfl, rfl, rfl⟩ rfl rfl rfl rfl rfl (by kernel_rfl) Try.func7 (by kernel_rfl)
    (of_decide_eq_true (by kernel_rfl)) (by unfold Func.isWrapper; first | (rw [if_pos (by decide +kernel)]; kernel_rfl) | (rw [if_neg (by decide +kernel)]; exact ⟨rfl, rfl⟩))
    (fun os started H enc _ => zoneStops_lifted os started H enc)
end Go.Proofs.Ytjkbkmbblidipaa
