/- Package link: steps as arguments; links beside a block that a region makes. -/
import Derived.Test.YtckbcfldjniafaaL16
namespace Go.Proofs.Ytckbcfldjniafaa
open Go.ChangeShapes Go.WideShapes Go.ChangeAt Go.RowKit Go.Deep

/-- A step, as it lies in a slice. -/
structure StepH where
  idle : Bool
  A : Option Addr
  cap : Nat
  data : List UInt8
  ticks : UInt8
def eStep : El StepH := ⟨fun x => [.bool x.idle, .slice x.A x.data.length x.cap, .int .u8 (x.ticks.toNat : Int)], 3, by omega, fun _ => rfl, fun x u hu => by simp at hu; rcases hu with rfl | rfl | rfl <;> rfl⟩
def FewS (l : List StepH) : Prop := (∀ (k : Nat) (h : k < l.length), l[k].data.length ≤ 60) ∧ l.length ≤ 30
instance (l : List StepH) : Decidable (FewS l) := decidable_of_iff ((∀ x ∈ l, x.data.length ≤ 60) ∧ l.length ≤ 30) ⟨fun h => ⟨fun k hk => h.1 _ (List.getElem_mem hk), h.2⟩, fun h => ⟨fun x hx => by obtain ⟨k, hk, rfl⟩ := List.getElem_of_mem hx; exact h.1 k hk, h.2⟩⟩
set_option maxRecDepth 100000 in
theorem fewS_c (A : Option Addr) (ca : Nat) (l : List StepH) (H : Heap) (hA : Rd eStep H A l) (hl : l.length ≤ 9223372036854775807) :
    CallsH Try.prog 23 [.slice A l.length ca] H fun v H' => v = .bool (decide (FewS l)) ∧ H' = H := by
  refine callsH_of Try.func23 rfl Try.ntmps23 (Nat.le_of_ble_eq_true rfl) ?_
  refine wpSeq fun F1 hF1 => ?_
  refine wpRegion ?_
  refine seqQ rfl rfl (yAssign (v := .bool _) rfl rfl) ?_
  refine seqNil ?_
  refine hF1 _ _ ?_; clear hF1
  refine wpSeq fun F2 hF2 => ?_
  refine wpSeq fun F3 hF3 => ?_
  refine wpRegion ?_
  refine seqQ rfl rfl (yAssign (v := .int _ _) rfl rfl) ?_
  refine seqNil ?_
  refine hF3 _ _ ?_; clear hF3
  -- loop
  refine wpBlock ?_
  refine wpLoopS [2, 3, 4, 5, 6, 7, 8, 9, 10, 11, 12, 13, 14, 15, 16] (fun k : Nat => [(3, .int .i64 k)]) (fun k H' => k ≤ l.length ∧ (∀ (j : Nat) (hj : j < l.length), j < k → l[j].data.length ≤ 60) ∧ H' = H) (fun k => l.length - k) 0 ⟨rfl, trivial⟩ ⟨Nat.zero_le _, fun j hj h => absurd h (by omega), rfl⟩ ?_
  rintro k J Hk ⟨hk, ho, rfl⟩
  refine wpSeq fun F4 hF4 => ?_
  refine wpSeq fun F5 hF5 => ?_
  refine wpRegion ?_
  refine seqQ rfl rfl (yMove (v := .int _ _) rfl rfl) ?_
  refine seqQ rfl rfl (yMove (v := .slice _ _ _) rfl rfl) ?_
  refine seqQ rfl rfl (yLen rfl Try.underlying49 rfl) ?_
  refine seqQ rfl rfl (yLss rfl rfl rfl) ?_
  refine seqNil ?_
  refine hF5 _ _ ?_; clear hF5
  -- if t7
  refine wpIf rfl (fun hlt => ?_) (fun hlt => ?_)
  · skip
    have hk : k < l.length := by omega
    obtain ⟨p, ep, hp⟩ := hA.at hk
    refine wpSkip ?_
    refine hF4 _ _ ?_; clear hF4
    refine wpSeq fun F6 hF6 => ?_
    refine wpBlock ?_
    refine wpSeq fun F7 hF7 => ?_
    refine wpRegion ?_
    refine seqQ rfl rfl (yMove (v := .slice _ _ _) rfl rfl) ?_
    refine seqQ rfl rfl (yMove (v := .int _ _) rfl rfl) ?_
    refine seqQ rfl rfl (yIdxP rfl Try.underlying49 Try.sizeOf53 rfl rfl ep rfl hk) ?_
    refine seqQ rfl rfl (yFieldAddr rfl Try.underlying53 rfl Try.sizeOf22 rfl rfl) ?_
    refine seqQ rfl rfl (yLoad rfl Try.underlying22 rfl rfl (hp 1 _ rfl)) ?_
    refine seqQ rfl rfl (yLen rfl Try.underlying22 rfl) ?_
    refine seqQ rfl rfl (yGtr rfl rfl rfl) ?_
    refine seqNil ?_
    refine hF7 _ _ ?_; clear hF7
    -- if t16
    refine wpIf rfl (fun h60 => ?_) (fun h60 => ?_)
    · skip
      refine wpSeq fun F8 hF8 => ?_
      refine wpRegion ?_
      refine seqQ rfl rfl (yAssign (v := .bool _) rfl rfl) ?_
      refine seqNil ?_
      refine hF8 _ _ ?_; clear hF8
      -- ret
      refine wpRet (fin1 (v := .bool _) rfl rfl ?_)
      exact ⟨by rw [decide_eq_false (fun hf => by have := hf.1 k hk; omega)], rfl⟩
    · skip
      refine wpSkip ?_
      refine hF6 _ _ ?_; clear hF6
      refine wpRegion ?_
      refine seqQ rfl rfl (yMove (v := .int _ _) rfl rfl) ?_
      refine seqQ rfl rfl (yAdd rfl rfl rfl (by unfold In64; omega)) ?_
      refine seqQ rfl rfl (yAssign (v := .int _ _) rfl rfl) ?_
      refine seqNil ?_
      -- end loop
      exact loopEnd (k + 1) (by repeat (first | (with_reducible exact Agree.refl _ _) | refine Agree.upd ?_ rfl | refine Agree.over ?_ rfl)) (by omega) ⟨rfl, trivial⟩ ⟨hk, fun j hj hjk => by
        by_cases e : j = k
        · subst e
          omega
        · exact ho j hj (by omega), rfl⟩
  · skip
    obtain rfl : k = l.length := by omega
    refine wpExit ?_
    refine hF2 _ _ ?_; clear hF2
    refine wpSeq fun F9 hF9 => ?_
    refine wpRegion ?_
    refine seqQ rfl rfl (yMove (v := .slice _ _ _) rfl rfl) ?_
    refine seqQ rfl rfl (yLen rfl Try.underlying49 rfl) ?_
    refine seqQ rfl rfl (yLeq rfl rfl rfl) ?_
    refine seqQ rfl rfl (yAssign (v := .bool _) rfl rfl) ?_
    refine seqNil ?_
    refine hF9 _ _ ?_; clear hF9
    -- ret
    refine wpRet (fin1 (v := .bool _) rfl rfl ?_)
    refine ⟨?_, rfl⟩
    congr 1
    exact decide_eq_decide.2 ⟨fun e => ⟨fun j hj => ho j hj hj, by omega⟩, fun hf => by have := hf.2; omega⟩
set_option maxRecDepth 100000 in
theorem opn_step (W : World) : Opn Try.prog W 53 3 eStep.F (fun x : StepH => Rd eByte W.heap x.A x.data) :=
  (opn_struct Try.underlying53 (by kernel_rfl) (opnF_cons rfl (opn_bool Try.underlying4 (by kernel_rfl)) (opnF_cons rfl (opn_bytes W) (opnF_cons rfl (opn_byte Try.underlying5 (by kernel_rfl)) (opnF_nil rfl))))).map
    (fun a => (⟨a.1, a.2.1.1, a.2.1.2.1, a.2.1.2.2, a.2.2.1⟩ : StepH)) (fun _ => rfl) (fun _ h => h.2.1.1)
set_option maxRecDepth 100000 in
theorem opn_steps (W : World) : Opn Try.prog W 49 1 (fun a : Option Addr × Nat × List StepH => [.slice a.1 a.2.2.length a.2.1]) (fun a => Rd eStep W.heap a.1 a.2.2 ∧ (∀ x ∈ a.2.2, Rd eByte W.heap x.A x.data) ∧ a.2.2.length ≤ a.2.1 ∧ a.2.1 ≤ maxLen) :=
  opn_slice (c := eStep) Try.underlying49 (by kernel_rfl) (opn_step W)

/-- The blocks of a link. -/
def LH.blks (l : LH) : List Nat := l.PA.toList.map (·.block) ++ (l.FA.toList.map (·.block) ++ l.fly.flatMap fun x => x.A.toList.map (·.block))
/-- .. of those that lie between. -/
def LH.blksIn (l : LH) (a b : Nat) : List Nat := l.blks.filter fun x => decide (a ≤ x ∧ x < b)
set_option maxRecDepth 100000 in
theorem LH.in_blks {l : LH} {a b x : Nat} (h : x ∈ l.blksIn a b) : a ≤ x ∧ x < b := by
  have := (List.mem_filter.1 h).2
  simpa using this
set_option maxRecDepth 100000 in
theorem Rd.keepN {α : Type} {c : El α} {H H' : Heap} {A : Option Addr} {l : List α} {g : Nat} (h : Rd c H A l) (hK : Keep [g] H H') (hg : ∀ p, A = some p → p.block < H.size → p.block ≠ g) : Rd c H' A l := fun hn => by
  obtain ⟨p, e, hc⟩ := h hn
  obtain ⟨q, e', hq⟩ := h.lt (List.length_pos_iff.2 hn)
  rw [e] at e'
  obtain rfl := Option.some.inj e'
  exact ⟨p, e, fun j u hu => hK.cell (hc j u hu) (by rw [block_of_add]; simpa using hg p e hq)⟩
set_option maxRecDepth 100000 in
/-- A link that a call has made, behind a store into a block that was made beside it. -/
theorem LkN.beside {base g : Nat} {H1 H2 H3 : Heap} {l : LH} (h : LkN base H1 l) (hx : Ext H1 H2) (hK : Keep [g] H2 H3) (hg : g ∉ l.blksIn base H1.size ++ []) : LkN base H3 l := by
  rw [List.append_nil] at hg
  have key : ∀ {α : Type} {c : El α} {A : Option Addr} {d : List α}, Rd c H1 A d → (∀ p, A = some p → base ≤ p.block ∧ p.block ∈ l.blks) → Rd c H3 A d := fun {α c A d} h0 hp hn => by
    obtain ⟨p, e, hc⟩ := h0 hn
    obtain ⟨q, e', hq⟩ := h0.lt (List.length_pos_iff.2 hn)
    rw [e] at e'
    obtain rfl := Option.some.inj e'
    have hb := hp p e
    have hne : p.block ≠ g := fun e2 => hg (e2 ▸ List.mem_filter.2 ⟨hb.2, by simpa using ⟨hb.1, hq⟩⟩)
    exact ⟨p, e, fun j u hu => hK.cell (hx.cell (hc j u hu)) (by rw [block_of_add]; simpa using hne)⟩
  refine ⟨⟨key h.rd.pat fun p e => ⟨h.lP p e, ?_⟩, key h.rd.fly fun p e => ⟨h.lF p e, ?_⟩, fun x hx => key (h.rd.data x hx) fun p e => ⟨h.lD x hx p e, ?_⟩, h.rd.fcap⟩, h.lP, h.lF, h.lD⟩
  · unfold LH.blks
    rw [e]
    simp
  · unfold LH.blks
    rw [e]
    simp
  · unfold LH.blks
    refine List.mem_append.2 (.inr (List.mem_append.2 (.inr (List.mem_flatMap.2 ⟨x, hx, ?_⟩))))
    rw [e]
    simp
end Go.Proofs.Ytckbcfldjniafaa
