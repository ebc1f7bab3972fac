/- Package link: links in memory; what is valid. -/
import Derived.Test.YtcfnmklbkhibgaaP
import Derived.Test.YtcfnmklbkhibgaaLN
import Derived.Test.YtcfnmklbkhibgaaLM
namespace Go.Proofs.Ytcfnmklbkhibgaa
open Go.RowKit

/-- A copy in flight, as it lies in a slice. -/
structure FH where
  due : Int
  A : Option Addr
  cap : Nat
  data : List UInt8
def eFH : El FH := ⟨fun x => [.int .i64 x.due, .slice x.A x.data.length x.cap], 2, by omega, fun _ => rfl, fun x u hu => by simp at hu; rcases hu with rfl | rfl <;> rfl⟩
set_option maxRecDepth 100000 in
theorem elem_eFH : Elem Try.prog 98 (.agg #[.int .i64 0, .slice none 0 0]) 2 32 := by unfold Elem; kernel_rfl
abbrev Fl := Int × List UInt8
def FH.fl (x : FH) : Fl := (x.due, x.data)
/-- A link. -/
structure Lk where
  pat : List UInt8
  now : Int
  sent : Int
  fly : List Fl
set_option maxRecDepth 100000 in
theorem Lk.eq_iff (a b : Lk) : a = b ↔ a.pat = b.pat ∧ a.now = b.now ∧ a.sent = b.sent ∧ a.fly = b.fly := by
  cases a; cases b; simp
instance : DecidableEq Lk := fun a b => decidable_of_iff _ (Lk.eq_iff a b).symm
/-- A link, as it lies in memory. -/
structure LH where
  PA : Option Addr
  pc : Nat
  pat : List UInt8
  now : Int
  sent : Int
  FA : Option Addr
  fc : Nat
  fly : List FH
def LH.lk (l : LH) : Lk := ⟨l.pat, l.now, l.sent, l.fly.map FH.fl⟩
@[reducible] def lkC (l : LH) : List Value := [.slice l.PA l.pat.length l.pc, .int .i64 l.now, .int .i64 l.sent, .slice l.FA l.fly.length l.fc]
structure LkRd (H : Heap) (l : LH) : Prop where
  pat : Rd eByte H l.PA l.pat
  fly : Rd eFH H l.FA l.fly
  data : ∀ x ∈ l.fly, Rd eByte H x.A x.data
  fcap : l.fly.length ≤ l.fc
set_option maxRecDepth 100000 in
theorem LkRd.ext {H H' : Heap} {l : LH} (h : LkRd H l) (hx : Ext H H') : LkRd H' l := ⟨h.pat.ext hx, h.fly.ext hx, fun x hm => (h.data x hm).ext hx, h.fcap⟩
/-- Few and small enough that nothing is out of range. -/
structure LkSm (l : LH) : Prop where
  pat : l.pat.length ≤ 100000
  fly : l.fly.length ≤ 100000
  data : ∀ x ∈ l.fly, x.data.length ≤ 100000

def FOk (now : Int) (f : List Fl) (k : Nat) : Prop := ((f.getD k (0, [])).2.length ≤ 1000) ∧ now < (f.getD k (0, [])).1 ∧ (f.getD k (0, [])).1 ≤ now + 8 ∧ (0 < k → (f.getD (k - 1) (0, [])).1 ≤ (f.getD k (0, [])).1)
instance (now : Int) (f : List Fl) (k : Nat) : Decidable (FOk now f k) := by unfold FOk; infer_instance
def ValidL (l : Lk) : Prop := l.pat.length ≤ 200 ∧ (0 ≤ l.now ∧ l.now ≤ 1099511627776) ∧ (0 ≤ l.sent ∧ l.sent ≤ 1099511627776) ∧ l.fly.length ≤ 300 ∧ ∀ k, k < l.fly.length → FOk l.now l.fly k
instance (l : Lk) : Decidable (ValidL l) := by unfold ValidL; infer_instance
set_option maxRecDepth 100000 in
theorem number_c (n : Int) (H : Heap) : CallsH Try.prog 68 [.int .i64 n] H fun v H' => v = .bool (decide (0 ≤ n ∧ n ≤ 1099511627776)) ∧ H' = H := by
  refine callsH_of Try.func68 rfl Try.ntmps68 (Nat.le_of_ble_eq_true rfl) ?_
  refine wpSeq fun F1 hF1 => ?_
  refine wpRegion ?_
  refine seqQ rfl rfl (yAssign (v := .bool _) rfl rfl) ?_
  refine seqNil ?_
  refine hF1 _ _ ?_; clear hF1
  refine wpSeq fun F2 hF2 => ?_
  refine wpRegion ?_
  refine seqQ rfl rfl (yMove (v := .int _ _) rfl rfl) ?_
  refine seqQ rfl rfl (yGeq rfl rfl rfl) ?_
  first | refine seqG rfl rfl rfl rfl (fun h5 => ?_) (fun h5 => ?_) | refine seqGB rfl rfl rfl rfl (fun h5 => ?_) (fun h5 => ?_)
  rotate_left
  · skip
    refine seqU rfl rfl ?_
    refine seqU rfl rfl ?_
    refine seqQ rfl rfl (yPickF (v := .bool _) rfl rfl rfl) ?_
    refine seqQ rfl rfl (yAssign (v := .bool _) rfl rfl) ?_
    refine seqNil ?_
    refine hF2 _ _ ?_; clear hF2
    refine wpRet (fin1 (v := .bool _) rfl rfl ?_)
    exact ⟨by congr 1; simp [*], rfl⟩
  refine seqQ rfl rfl (yMove (v := .int _ _) rfl rfl) ?_
  refine seqQ rfl rfl (yLeq rfl rfl rfl) ?_
  refine seqQ rfl rfl (yPickT (v := .bool _) rfl rfl rfl) ?_
  refine seqQ rfl rfl (yAssign (v := .bool _) rfl rfl) ?_
  refine seqNil ?_
  refine hF2 _ _ ?_; clear hF2
  -- ret
  refine wpRet (fin1 (v := .bool _) rfl rfl ?_)
  exact ⟨by congr 1; simp [*], rfl⟩
set_option maxRecDepth 100000 in
theorem getD_fl (l : LH) {k : Nat} (hk : k < l.fly.length) : l.lk.fly.getD k (0, []) = (l.fly[k].due, l.fly[k].data) := by
  unfold LH.lk
  rw [List.getD_eq_getElem?_getD, List.getElem?_map, List.getElem?_eq_getElem hk]
  rfl
set_option maxRecDepth 100000 in
theorem fly_len (l : LH) : l.lk.fly.length = l.fly.length := by unfold LH.lk; simp
set_option maxRecDepth 100000 in
theorem lValid_c (l : LH) (H : Heap) (h : LkRd H l) (hs : LkSm l) :
    CallsH Try.prog 53 [.agg (lkC l).toArray] H fun v H' => v = .bool (decide (ValidL l.lk)) ∧ Ext H H' := by
  have s1 := hs.pat
  have s2 := hs.fly
  refine callsH_of Try.func53 rfl Try.ntmps53 (Nat.le_of_ble_eq_true rfl) ?_
  refine wpSeq fun F1 hF1 => ?_
  refine wpRegion ?_
  refine seqN rfl rfl (nBoxA rfl rfl) (fun g1 H1 hx1 hB1 hg1 hl1 => ?_)
  refine seqQ rfl rfl (yAssign (v := .bool _) rfl rfl) ?_
  refine seqNil ?_
  refine hF1 _ _ ?_; clear hF1
  refine wpSeq fun F2 hF2 => ?_
  refine wpSeq fun F3 hF3 => ?_
  refine wpRegion ?_
  refine seqQ rfl rfl (yFieldAddr rfl Try.underlying65 rfl Try.sizeOf63 rfl rfl) ?_
  refine seqQ rfl rfl (yLoad rfl Try.underlying63 rfl rfl (hB1.cell rfl)) ?_
  refine seqQ rfl rfl (yLen rfl Try.underlying63 rfl) ?_
  refine seqQ rfl rfl (yMove (v := .int _ _) rfl rfl) ?_
  refine seqNil ?_
  refine hF3 _ _ ?_; clear hF3
  -- loop
  have hw : (0 ≤ l.now ∧ l.now ≤ 1099511627776) → IntKind.i64.wrap (l.now + 8) = l.now + 8 := fun hr => by rw [IntKind.wrap_i64]; omega
  obtain ⟨now8, hn8⟩ : ∃ z, IntKind.i64.wrap (l.now + 8) = z := ⟨_, rfl⟩
  rw [hn8] at hw
  have hrf := h.fly.ext hx1
  refine wpBlock ?_
  refine wpLoopS [2, 3, 4, 8, 9, 10, 11, 12, 13, 14, 15, 16, 17, 18, 19, 20, 21, 22, 23, 24, 25, 26, 27, 28, 29, 30, 31, 32, 33, 34, 35, 36, 37, 38, 39, 40, 41, 42, 43, 44, 45, 46, 47, 48] (fun k : Nat => [(8, .int .i64 k)]) (fun k H' => k ≤ l.fly.length ∧ ((0 ≤ l.now ∧ l.now ≤ 1099511627776) → ∀ j, j < k → FOk l.now l.lk.fly j) ∧ Ext H1 H') (fun k => l.fly.length - k) 0 ⟨rfl, trivial⟩ ⟨Nat.zero_le _, fun _ j hj => absurd hj (by omega), Ext.refl _⟩ ?_
  rintro k J Hk ⟨hk, ho, hE⟩
  refine wpSeq fun F4 hF4 => ?_
  refine wpRegion ?_
  refine seqQ rfl rfl (yLss rfl rfl rfl) ?_
  refine seqNil ?_
  refine hF4 _ _ ?_; clear hF4
  refine wpSeq fun F5 hF5 => ?_
  -- if t9
  refine wpIf rfl (fun hlt => ?_) (fun hlt => ?_)
  · skip
    have hk : k < l.fly.length := by omega
    have hgk := getD_fl l hk
    obtain ⟨p, ep, hp⟩ := hrf.at hk
    have hbad : ((0 ≤ l.now ∧ l.now ≤ 1099511627776) → ¬ FOk l.now l.lk.fly k) → ¬ ValidL l.lk := fun hb hv => hb hv.2.1 (hv.2.2.2.2 k (by rw [fly_len]; exact hk))
    refine wpSkip ?_
    refine hF5 _ _ ?_; clear hF5
    refine wpSeq fun F6 hF6 => ?_
    refine wpBlock ?_
    refine wpSeq fun F7 hF7 => ?_
    refine wpRegion ?_
    refine seqQ rfl rfl (yMove (v := .int _ _) rfl rfl) ?_
    refine seqQ rfl rfl (yIdxP rfl Try.underlying63 Try.sizeOf98 rfl rfl ep rfl hk) ?_
    refine seqQ rfl rfl (yLoadC (cs := eFH.F l.fly[k]) rfl Try.underlying98 rfl Try.sizeOf98 rfl (fun j u hu => hE.cell (hp j u hu))) ?_
    refine seqN rfl rfl (nAlloc rfl Try.zeroValue98 rfl) (fun g4 H4 hx4 hB4 hg4 hl4 => ?_)
    refine seqQ rfl rfl (yAssign (v := .int _ _) rfl rfl) ?_
    -- e slot None: store T98 t4 t12
    refine seqE0 rfl rfl (stepStoreB rfl (by kernel_rfl) rfl rfl rfl hB4 rfl ?_)
    intro H5 h4 hK5
    have hE5 : Ext H1 H5 := (hE.trans hx4).mine hK5 (by have := hE.size; simp; omega)
    have h1 := hB1.ext hE5
    clear hK5 hx4 hB4
    refine seqNil ?_
    refine hF7 _ _ ?_; clear hF7
    refine wpSeq fun F8 hF8 => ?_
    refine wpRegionD Try_mixed [.q, .q, .q, .q, .q, .q, .q, .q, .q, .q, .q, .q, .q, .q, .q, .q, .q, .q, .q, .q, .q, .q, .q, .q, .q, .q, .q, .q, .q, .q, .q, .q, .q, .q, .q] 32 [0, 1, 3, 7, 15, 31, 63, 31, 159, 511, 1023, 2047, 4095, 8191, 4095, 20479, 53247, 131071, 262143, 524287, 1048575, 2097151, 4194303, 8388607, 16777215, 8388607, 41943039, 8388607, 142606335, 511705087, 1048575999, 2122317823, 4294967295, 8589934591, 17179869183] [] (by kernel_rfl) _ rfl [0, 1, 2, 3, 4, 5, 6, 7, 8, 9, 10, 11, 12, 13, 14, 15, 16, 17, 18, 19, 20, 21, 22, 23, 24, 25, 26, 27, 28, 29, 30, 31] rfl (by simp) ?_
    refine lexQ rfl rfl rfl rfl (fun H hM => (yFieldAddr rfl Try.underlying98 rfl Try.sizeOf58 rfl rfl)) ?_
    refine lexQ rfl rfl rfl rfl (fun H hM => (yLoad rfl Try.underlying58 rfl rfl (hM.ext.cell (h4.cell rfl)))) ?_
    refine lexQ rfl rfl rfl rfl (fun H hM => (yLen rfl Try.underlying58 rfl)) ?_
    refine lexQ rfl rfl rfl rfl (fun H hM => (yGtr rfl rfl rfl)) ?_
    first | refine lexG rfl rfl rfl rfl rfl rfl (fun h17 => ?_) (fun h17 => ?_) | refine lexGB rfl rfl rfl rfl rfl rfl (fun h17 => ?_) (fun h17 => ?_)
    · skip
      refine lexU rfl rfl rfl ?_
      refine lexU rfl rfl rfl ?_
      refine lexU rfl rfl rfl ?_
      refine lexU rfl rfl rfl ?_
      refine lexU rfl rfl rfl ?_
      refine lexQ rfl rfl rfl rfl (fun H hM => (yPickT (v := .bool _) rfl rfl rfl)) ?_
      refine lexQ rfl rfl rfl rfl (fun H hM => (yMove (v := .bool true) rfl rfl)) ?_
      refine lexU rfl rfl rfl ?_
      refine lexU rfl rfl rfl ?_
      refine lexU rfl rfl rfl ?_
      refine lexU rfl rfl rfl ?_
      refine lexU rfl rfl rfl ?_
      refine lexU rfl rfl rfl ?_
      refine lexQ rfl rfl rfl rfl (fun H hM => (yPickT (v := .bool _) rfl rfl rfl)) ?_
      refine lexQ rfl rfl rfl rfl (fun H hM => (yMove (v := .bool true) rfl rfl)) ?_
      refine lexU rfl rfl rfl ?_
      refine lexU rfl rfl rfl ?_
      refine lexU rfl rfl rfl ?_
      refine lexU rfl rfl rfl ?_
      refine lexU rfl rfl rfl ?_
      refine lexU rfl rfl rfl ?_
      refine lexU rfl rfl rfl ?_
      refine lexU rfl rfl rfl ?_
      refine lexU rfl rfl rfl ?_
      refine lexU rfl rfl rfl ?_
      refine lexU rfl rfl rfl ?_
      refine lexU rfl rfl rfl ?_
      refine lexNil0 rfl (fun hM => ?_)
      refine seqU rfl rfl ?_
      refine seqU rfl rfl ?_
      refine seqQ rfl rfl (yPickT (v := .bool _) rfl rfl rfl) ?_
      refine seqNil ?_
      refine hF8 _ _ ?_; clear hF8
      refine wpT rfl ?_
      refine wpSeq fun F9 hF9 => ?_
      refine wpRegion ?_
      refine seqQ rfl rfl (yAssign (v := .bool _) rfl rfl) ?_
      refine seqNil ?_
      refine hF9 _ _ ?_; clear hF9
      refine wpRet (fin1 (v := .bool _) rfl rfl ?_)
      exact ⟨by rw [decide_eq_false (hbad fun hr hf => by have := hw hr; simp only [FOk, hgk] at hf; omega)], hx1.trans hE5⟩
    refine lexQ rfl rfl rfl rfl (fun H hM => (yFieldAddr rfl Try.underlying98 rfl Try.sizeOf3 rfl rfl)) ?_
    refine lexQ rfl rfl rfl rfl (fun H hM => (yLoad rfl Try.underlying3 rfl rfl (hM.ext.cell (h4.cell rfl)))) ?_
    refine lexQ rfl rfl rfl rfl (fun H hM => (yFieldAddr rfl Try.underlying65 rfl Try.sizeOf3 rfl rfl)) ?_
    refine lexQ rfl rfl rfl rfl (fun H hM => (yLoad rfl Try.underlying3 rfl rfl (hM.ext.cell (h1.cell rfl)))) ?_
    refine lexQ rfl rfl rfl rfl (fun H hM => (yLeq rfl rfl rfl)) ?_
    refine lexQ rfl rfl rfl rfl (fun H hM => (yPickF (v := .bool _) rfl rfl rfl)) ?_
    first | refine lexG rfl rfl rfl rfl rfl rfl (fun h24 => ?_) (fun h24 => ?_) | refine lexGB rfl rfl rfl rfl rfl rfl (fun h24 => ?_) (fun h24 => ?_)
    · skip
      refine lexU rfl rfl rfl ?_
      refine lexU rfl rfl rfl ?_
      refine lexU rfl rfl rfl ?_
      refine lexU rfl rfl rfl ?_
      refine lexU rfl rfl rfl ?_
      refine lexU rfl rfl rfl ?_
      refine lexQ rfl rfl rfl rfl (fun H hM => (yPickT (v := .bool _) rfl rfl rfl)) ?_
      refine lexQ rfl rfl rfl rfl (fun H hM => (yMove (v := .bool true) rfl rfl)) ?_
      refine lexU rfl rfl rfl ?_
      refine lexU rfl rfl rfl ?_
      refine lexU rfl rfl rfl ?_
      refine lexU rfl rfl rfl ?_
      refine lexU rfl rfl rfl ?_
      refine lexU rfl rfl rfl ?_
      refine lexU rfl rfl rfl ?_
      refine lexU rfl rfl rfl ?_
      refine lexU rfl rfl rfl ?_
      refine lexU rfl rfl rfl ?_
      refine lexU rfl rfl rfl ?_
      refine lexU rfl rfl rfl ?_
      refine lexNil0 rfl (fun hM => ?_)
      refine seqU rfl rfl ?_
      refine seqU rfl rfl ?_
      refine seqQ rfl rfl (yPickT (v := .bool _) rfl rfl rfl) ?_
      refine seqNil ?_
      refine hF8 _ _ ?_; clear hF8
      refine wpT rfl ?_
      refine wpSeq fun F10 hF10 => ?_
      refine wpRegion ?_
      refine seqQ rfl rfl (yAssign (v := .bool _) rfl rfl) ?_
      refine seqNil ?_
      refine hF10 _ _ ?_; clear hF10
      refine wpRet (fin1 (v := .bool _) rfl rfl ?_)
      exact ⟨by rw [decide_eq_false (hbad fun hr hf => by have := hw hr; simp only [FOk, hgk] at hf; omega)], hx1.trans hE5⟩
    refine lexQ rfl rfl rfl rfl (fun H hM => (yFieldAddr rfl Try.underlying98 rfl Try.sizeOf3 rfl rfl)) ?_
    refine lexQ rfl rfl rfl rfl (fun H hM => (yLoad rfl Try.underlying3 rfl rfl (hM.ext.cell (h4.cell rfl)))) ?_
    refine lexQ rfl rfl rfl rfl (fun H hM => (yFieldAddr rfl Try.underlying65 rfl Try.sizeOf3 rfl rfl)) ?_
    refine lexQ rfl rfl rfl rfl (fun H hM => (yLoad rfl Try.underlying3 rfl rfl (hM.ext.cell (h1.cell rfl)))) ?_
    refine lexQ rfl rfl rfl rfl (fun H hM => (yAddK rfl rfl rfl hn8)) ?_
    refine lexQ rfl rfl rfl rfl (fun H hM => (yGtr rfl rfl rfl)) ?_
    refine lexQ rfl rfl rfl rfl (fun H hM => (yPickF (v := .bool _) rfl rfl rfl)) ?_
    first | refine lexG rfl rfl rfl rfl rfl rfl (fun h32 => ?_) (fun h32 => ?_) | refine lexGB rfl rfl rfl rfl rfl rfl (fun h32 => ?_) (fun h32 => ?_)
    · skip
      refine lexU rfl rfl rfl ?_
      refine lexU rfl rfl rfl ?_
      refine lexU rfl rfl rfl ?_
      refine lexU rfl rfl rfl ?_
      refine lexU rfl rfl rfl ?_
      refine lexU rfl rfl rfl ?_
      refine lexU rfl rfl rfl ?_
      refine lexU rfl rfl rfl ?_
      refine lexU rfl rfl rfl ?_
      refine lexU rfl rfl rfl ?_
      refine lexU rfl rfl rfl ?_
      refine lexU rfl rfl rfl ?_
      refine lexNil0 rfl (fun hM => ?_)
      refine seqU rfl rfl ?_
      refine seqU rfl rfl ?_
      refine seqQ rfl rfl (yPickT (v := .bool _) rfl rfl rfl) ?_
      refine seqNil ?_
      refine hF8 _ _ ?_; clear hF8
      refine wpT rfl ?_
      refine wpSeq fun F11 hF11 => ?_
      refine wpRegion ?_
      refine seqQ rfl rfl (yAssign (v := .bool _) rfl rfl) ?_
      refine seqNil ?_
      refine hF11 _ _ ?_; clear hF11
      refine wpRet (fin1 (v := .bool _) rfl rfl ?_)
      exact ⟨by rw [decide_eq_false (hbad fun hr hf => by have := hw hr; simp only [FOk, hgk] at hf; omega)], hx1.trans hE5⟩
    refine lexQ rfl rfl rfl rfl (fun H hM => (yMove (v := .int _ _) rfl rfl)) ?_
    refine lexQ rfl rfl rfl rfl (fun H hM => (yGtr rfl rfl rfl)) ?_
    -- guard t35
    have hnext : ∀ (hd : 0 < k → (l.lk.fly.getD (k - 1) (0, [])).1 ≤ l.fly[k].due), (0 ≤ l.now ∧ l.now ≤ 1099511627776) → ∀ j, j < k + 1 → FOk l.now l.lk.fly j := fun hd hr j hj => by
      by_cases e : j = k
      · subst e
        have := hw hr
        unfold FOk
        rw [hgk]
        exact ⟨by show l.fly[j].data.length ≤ 1000; omega, by show l.now < l.fly[j].due; omega, by show l.fly[j].due ≤ l.now + 8; omega, hd⟩
      · exact ho hr j (by omega)
    refine lexG rfl rfl rfl rfl rfl rfl (fun h35 => ?_) (fun h35 => ?_)
    · skip
      have hk0 : 0 < k := by omega
      have hk1 : k - 1 < l.fly.length := by omega
      have hgk1 := getD_fl l hk1
      obtain ⟨p', ep', hp'⟩ := hrf.at hk1
      obtain rfl := Option.some.inj (ep.symm.trans ep')
      refine lexQ rfl rfl rfl rfl (fun H hM => (yFieldAddr rfl Try.underlying98 rfl Try.sizeOf3 rfl rfl)) ?_
      refine lexQ rfl rfl rfl rfl (fun H hM => (yLoad rfl Try.underlying3 rfl rfl (hM.ext.cell (h4.cell rfl)))) ?_
      refine lexQ rfl rfl rfl rfl (fun H hM => (yFieldAddr rfl Try.underlying65 rfl Try.sizeOf63 rfl rfl)) ?_
      refine lexQ rfl rfl rfl rfl (fun H hM => (yLoad rfl Try.underlying63 rfl rfl (hM.ext.cell (h1.cell rfl)))) ?_
      refine lexQ rfl rfl rfl rfl (fun H hM => (yMove (v := .int _ _) rfl rfl)) ?_
      refine lexQ rfl rfl rfl rfl (fun H hM => (ySubE rfl rfl rfl (by unfold In64; omega) (show (k : Int) - 1 = ((k - 1 : Nat) : Int) by omega))) ?_
      refine lexQ rfl rfl rfl rfl (fun H hM => (yIdxP rfl Try.underlying63 Try.sizeOf98 rfl rfl ep rfl hk1)) ?_
      refine lexQ rfl rfl rfl rfl (fun H hM => (yFieldAddr rfl Try.underlying98 rfl Try.sizeOf3 rfl rfl)) ?_
      refine lexQ rfl rfl rfl rfl (fun H hM => (yLoad rfl Try.underlying3 rfl rfl (hM.ext.cell (hE5.cell (hp' 0 _ rfl))))) ?_
      -- tail
      refine lexNil0 rfl (fun hM => ?_)
      refine seqQ rfl rfl (yLss rfl rfl rfl) ?_
      refine seqQ rfl rfl (yPickT (v := .bool _) rfl rfl rfl) ?_
      refine seqQ rfl rfl (yPickF (v := .bool _) rfl rfl rfl) ?_
      refine seqNil ?_
      refine hF8 _ _ ?_; clear hF8
      -- if t47
      refine wpIf rfl (fun hlast => ?_) (fun hlast => ?_)
      · skip
        refine wpSeq fun F12 hF12 => ?_
        refine wpRegion ?_
        refine seqQ rfl rfl (yAssign (v := .bool _) rfl rfl) ?_
        refine seqNil ?_
        refine hF12 _ _ ?_; clear hF12
        -- ret
        refine wpRet (fin1 (v := .bool _) rfl rfl ?_)
        exact ⟨by rw [decide_eq_false (hbad fun hr hf => by have := hw hr; simp only [FOk, hgk, hgk1] at hf; omega)], hx1.trans hE5⟩
      · skip
        refine wpSkip ?_
        refine hF6 _ _ ?_; clear hF6
        refine wpRegion ?_
        refine seqQ rfl rfl (yAdd rfl rfl rfl (by unfold In64; omega)) ?_
        refine seqQ rfl rfl (yMove (v := .int _ _) rfl rfl) ?_
        refine seqNil ?_
        -- end loop
        exact loopEnd (k + 1) (by repeat (first | (with_reducible exact Agree.refl _ _) | refine Agree.upd ?_ rfl | refine Agree.over ?_ rfl)) (by omega) ⟨rfl, trivial⟩ ⟨hk, hnext (fun _ => by rw [hgk1]; show l.fly[k - 1].due ≤ _; omega), hE5⟩
    · skip
      refine lexU rfl rfl rfl ?_
      refine lexU rfl rfl rfl ?_
      refine lexU rfl rfl rfl ?_
      refine lexU rfl rfl rfl ?_
      refine lexU rfl rfl rfl ?_
      refine lexU rfl rfl rfl ?_
      refine lexU rfl rfl rfl ?_
      refine lexU rfl rfl rfl ?_
      refine lexU rfl rfl rfl ?_
      -- tail
      refine lexNil0 rfl (fun hM => ?_)
      refine seqU rfl rfl ?_
      refine seqQ rfl rfl (yPickF (v := .bool _) rfl rfl rfl) ?_
      refine seqQ rfl rfl (yPickF (v := .bool _) rfl rfl rfl) ?_
      refine seqNil ?_
      refine hF8 _ _ ?_; clear hF8
      -- if t47
      refine wpF rfl ?_
      refine wpSkip ?_
      refine hF6 _ _ ?_; clear hF6
      refine wpRegion ?_
      refine seqQ rfl rfl (yAdd rfl rfl rfl (by unfold In64; omega)) ?_
      refine seqQ rfl rfl (yMove (v := .int _ _) rfl rfl) ?_
      refine seqNil ?_
      -- end loop
      exact loopEnd (k + 1) (by repeat (first | (with_reducible exact Agree.refl _ _) | refine Agree.upd ?_ rfl | refine Agree.over ?_ rfl)) (by omega) ⟨rfl, trivial⟩ ⟨hk, hnext (fun h0 => by omega), hE5⟩
  · skip
    obtain rfl : k = l.fly.length := by omega
    have h1 := hB1.ext hE
    have hpl : l.lk.pat.length = l.pat.length := rfl
    have hfl := fly_len l
    refine wpExit ?_
    refine hF2 _ _ ?_; clear hF2
    refine wpSeq fun F13 hF13 => ?_
    refine wpRegion ?_
    refine seqQ rfl rfl (yFieldAddr rfl Try.underlying65 rfl Try.sizeOf58 rfl rfl) ?_
    refine seqQ rfl rfl (yLoad rfl Try.underlying58 rfl rfl (h1.cell rfl)) ?_
    refine seqQ rfl rfl (yLen rfl Try.underlying58 rfl) ?_
    refine seqQ rfl rfl (yLeq rfl rfl rfl) ?_
    first | refine seqG rfl rfl rfl rfl (fun h53 => ?_) (fun h53 => ?_) | refine seqGB rfl rfl rfl rfl (fun h53 => ?_) (fun h53 => ?_)
    rotate_left
    · skip
      refine seqU rfl rfl ?_
      refine seqU rfl rfl ?_
      refine seqU rfl rfl ?_
      refine seqQ rfl rfl (yPickF (v := .bool _) rfl rfl rfl) ?_
      refine seqQ rfl rfl (yMove (v := .bool false) rfl rfl) ?_
      refine seqU rfl rfl ?_
      refine seqU rfl rfl ?_
      refine seqU rfl rfl ?_
      refine seqQ rfl rfl (yPickF (v := .bool _) rfl rfl rfl) ?_
      refine seqQ rfl rfl (yMove (v := .bool false) rfl rfl) ?_
      refine seqU rfl rfl ?_
      refine seqU rfl rfl ?_
      refine seqU rfl rfl ?_
      refine seqU rfl rfl ?_
      refine seqQ rfl rfl (yPickF (v := .bool _) rfl rfl rfl) ?_
      refine seqQ rfl rfl (yAssign (v := .bool _) rfl rfl) ?_
      refine seqNil ?_
      refine hF13 _ _ ?_; clear hF13
      refine wpRet (fin1 (v := .bool _) rfl rfl ?_)
      exact ⟨by congr 1; rw [decide_eq_false (fun hv => by have := hv.1; omega)], hx1.trans hE⟩
    refine seqQ rfl rfl (yFieldAddr rfl Try.underlying65 rfl Try.sizeOf3 rfl rfl) ?_
    refine seqQ rfl rfl (yLoad rfl Try.underlying3 rfl rfl (h1.cell rfl)) ?_
    -- e slot 56: call F68<farandole/link.number> t55
    refine seqE rfl rfl (stepCall rfl Try.call68 rfl ?_)
    refine (number_c _ _).mono ?_
    rintro v H2 ⟨rfl, e⟩; obtain rfl := e.symm; clear e
    refine seqQ rfl rfl (yPickT (v := .bool _) rfl rfl rfl) ?_
    first | refine seqG rfl rfl rfl rfl (fun h58 => ?_) (fun h58 => ?_) | refine seqGB rfl rfl rfl rfl (fun h58 => ?_) (fun h58 => ?_)
    rotate_left
    · skip
      refine seqU rfl rfl ?_
      refine seqU rfl rfl ?_
      refine seqU rfl rfl ?_
      refine seqQ rfl rfl (yPickF (v := .bool _) rfl rfl rfl) ?_
      refine seqQ rfl rfl (yMove (v := .bool false) rfl rfl) ?_
      refine seqU rfl rfl ?_
      refine seqU rfl rfl ?_
      refine seqU rfl rfl ?_
      refine seqU rfl rfl ?_
      refine seqQ rfl rfl (yPickF (v := .bool _) rfl rfl rfl) ?_
      refine seqQ rfl rfl (yAssign (v := .bool _) rfl rfl) ?_
      refine seqNil ?_
      refine hF13 _ _ ?_; clear hF13
      refine wpRet (fin1 (v := .bool _) rfl rfl ?_)
      exact ⟨by congr 1; rw [decide_eq_false (fun hv => h58 (by have := hv.2.1; exact this))], hx1.trans hE⟩
    refine seqQ rfl rfl (yFieldAddr rfl Try.underlying65 rfl Try.sizeOf3 rfl rfl) ?_
    refine seqQ rfl rfl (yLoad rfl Try.underlying3 rfl rfl (h1.cell rfl)) ?_
    -- e slot 61: call F68<farandole/link.number> t60
    refine seqE rfl rfl (stepCall rfl Try.call68 rfl ?_)
    refine (number_c _ _).mono ?_
    rintro v H2 ⟨rfl, e⟩; obtain rfl := e.symm; clear e
    refine seqQ rfl rfl (yPickT (v := .bool _) rfl rfl rfl) ?_
    first | refine seqG rfl rfl rfl rfl (fun h63 => ?_) (fun h63 => ?_) | refine seqGB rfl rfl rfl rfl (fun h63 => ?_) (fun h63 => ?_)
    rotate_left
    · skip
      refine seqU rfl rfl ?_
      refine seqU rfl rfl ?_
      refine seqU rfl rfl ?_
      refine seqU rfl rfl ?_
      refine seqQ rfl rfl (yPickF (v := .bool _) rfl rfl rfl) ?_
      refine seqQ rfl rfl (yAssign (v := .bool _) rfl rfl) ?_
      refine seqNil ?_
      refine hF13 _ _ ?_; clear hF13
      refine wpRet (fin1 (v := .bool _) rfl rfl ?_)
      exact ⟨by congr 1; rw [decide_eq_false (fun hv => h63 (by have := hv.2.2.1; exact this))], hx1.trans hE⟩
    refine seqQ rfl rfl (yFieldAddr rfl Try.underlying65 rfl Try.sizeOf63 rfl rfl) ?_
    refine seqQ rfl rfl (yLoad rfl Try.underlying63 rfl rfl (h1.cell rfl)) ?_
    refine seqQ rfl rfl (yLen rfl Try.underlying63 rfl) ?_
    refine seqQ rfl rfl (yLeq rfl rfl rfl) ?_
    refine seqQ rfl rfl (yPickT (v := .bool _) rfl rfl rfl) ?_
    refine seqQ rfl rfl (yAssign (v := .bool _) rfl rfl) ?_
    refine seqNil ?_
    refine hF13 _ _ ?_; clear hF13
    -- ret
    refine wpRet (fin1 (v := .bool _) rfl rfl ?_)
    refine ⟨?_, hx1.trans hE⟩
    congr 1
    rw [Bool.eq_iff_iff]
    simp only [decide_eq_true_eq]
    exact ⟨fun h0 => ⟨by omega, h58, h63, by omega, fun j hj => ho h58 j (by omega)⟩, fun hv => by have := hv.2.2.2.1; omega⟩
end Go.Proofs.Ytcfnmklbkhibgaa
