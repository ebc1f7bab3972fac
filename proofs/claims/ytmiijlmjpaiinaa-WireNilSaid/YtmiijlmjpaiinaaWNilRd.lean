/- Walks over package wire: the methods of a nil reader; and equal events. -/
import Derived.Test.YtmiijlmjpaiinaaWOpen
namespace Go.Proofs.Ytmiijlmjpaiinaa
open Go.RowKit

set_option maxHeartbeats 400000 in
theorem Int_nil (w : World) : Calls Try.prog 30 #[.pointer none] w fun e w' => e = .returned (.int .i64 0) ∧ Ext w w' := by
  go_enter Try.func30, Try.ntmps30
  go_wp2_with fail
  go_enter Try.func41, Try.ntmps41
  go_wp2
  go_ret
  exact ⟨rfl, Ext.refl _⟩
set_option maxHeartbeats 400000 in
theorem Bounded_nil (lo hi : Int) (w : World) : Calls Try.prog 24 #[.pointer none, .int .i64 lo, .int .i64 hi] w fun e w' => e = .returned (.int .i64 0) ∧ Ext w w' := by
  go_enter Try.func24, Try.ntmps24
  go_wp2_with fail
  go_enter Try.func41, Try.ntmps41
  go_wp2
  go_ret
  exact ⟨rfl, (((Ext.refl _).alloc _).alloc _).alloc _⟩
set_option maxHeartbeats 400000 in
theorem Bool_nil (w : World) : Calls Try.prog 25 #[.pointer none] w fun e w' => e = .returned (.bool false) ∧ Ext w w' := by
  go_enter Try.func25, Try.ntmps25
  go_wp2_with fail
  go_enter Try.func44, Try.ntmps44
  go_wp2
  go_ret
  exact ⟨rfl, Ext.refl _⟩
set_option maxHeartbeats 400000 in
theorem Bytes_nil (n : Int) (w : World) : Calls Try.prog 27 #[.pointer none, .int .i64 n] w fun e w' => e = .returned (.slice none 0 0) ∧ Ext w w' := by
  go_enter Try.func27, Try.ntmps27
  go_wp2_with fail
  go_enter Try.func46, Try.ntmps46
  go_wp2
  go_ret
  exact ⟨rfl, ((Ext.refl _).alloc _).alloc _⟩
set_option maxHeartbeats 400000 in
theorem Text_nil (n : Int) (w : World) : Calls Try.prog 26 #[.pointer none, .int .i64 n] w fun e w' => e = .returned (.string ⟨#[]⟩) ∧ Ext w w' := by
  go_enter Try.func26, Try.ntmps26
  go_wp2_with fail
  refine (Bytes_nil n w).mono ?_
  rintro e w1 ⟨rfl, hE⟩
  have g1 : (convert 29 9 (.slice none 0 0)).run Try.prog w1 = .ok (.string ⟨#[]⟩) w1 := conv_str (Rd.nil w1 none) 0
  go_wp2
  go_ret
  exact ⟨rfl, hE⟩
set_option maxHeartbeats 400000 in
theorem Ints_nil (n : Int) (w : World) : Calls Try.prog 23 #[.pointer none, .int .i64 n] w fun e w' => e = .returned (.slice none 0 0) ∧ Ext w w' := by
  go_enter Try.func23, Try.ntmps23
  go_wp2_with fail
  go_enter Try.func37, Try.ntmps37
  go_wp2
  go_ret
  exact ⟨rfl, ((Ext.refl _).alloc _).alloc _⟩
set_option maxHeartbeats 400000 in
theorem Values_nil (n : Int) (w : World) : Calls Try.prog 32 #[.pointer none, .int .i64 n] w fun e w' => e = .returned (.slice none 0 0) ∧ Ext w w' := by
  go_enter Try.func32, Try.ntmps32
  go_wp2_with fail
  go_enter Try.func51, Try.ntmps51
  go_wp2
  go_ret
  exact ⟨rfl, ((Ext.refl _).alloc _).alloc _⟩

theorem heap3' {w : World} {o1 o2 o3 : Obj} : (((w.alloc o1).alloc o2).alloc o3).heap[w.heap.size]? = some o1 ∧ (((w.alloc o1).alloc o2).alloc o3).heap[w.heap.size + 1]? = some o2 ∧ (((w.alloc o1).alloc o2).alloc o3).heap[w.heap.size + 2]? = some o3 := by
  have hs1 : (w.alloc o1).heap.size = w.heap.size + 1 := by simp
  have hs2 : ((w.alloc o1).alloc o2).heap.size = w.heap.size + 2 := by simp
  have hs3 : (((w.alloc o1).alloc o2).alloc o3).heap.size = w.heap.size + 3 := by simp
  refine ⟨?_, ?_, ?_⟩
  · rw [Below.heap_alloc _ _ _ (by omega), Below.heap_alloc _ _ _ (by omega)]
    exact heap_alloc_new w o1
  · rw [Below.heap_alloc _ _ _ (by omega), ← hs1]
    exact heap_alloc_new _ o2
  · rw [← hs2]
    exact heap_alloc_new _ o3

set_option maxHeartbeats 400000 in
theorem Value_nil (w : World) : Calls Try.prog 31 #[.pointer none] w fun e w' => e = .returned (.agg #[.int .i64 0, .int .i64 0, .string ⟨#[]⟩]) ∧ Ext w w' := by
  go_enter Try.func31, Try.ntmps31
  go_wp2_with fail
  go_enter Try.func49, Try.ntmps49
  go_wp2
  refine bodyPost_ret (results_cell_row rfl _ _ (w.heap.size + 1) 34 _ (0, 0) _ rfl heap3'.2.1 Try.underlying34 rfl (by kernel_rfl)) rfl ?_
  go_wp2
  refine bodyPost_ret (results_cell_row rfl _ _ w.heap.size 34 _ (0, 0) _ rfl heap3'.1 Try.underlying34 rfl (by kernel_rfl)) rfl ?_
  exact ⟨rfl, (((Ext.refl _).alloc _).alloc _).alloc _⟩
set_option maxHeartbeats 400000 in
theorem Event_nil (w : World) : Calls Try.prog 34 #[.pointer none] w fun e w' => e = .returned (.agg #[.int .i64 0, .bool false, .int .i64 0, .int .i64 0, .slice none 0 0]) ∧ Ext w w' := by
  go_enter Try.func34, Try.ntmps34
  go_wp2_with fail
  go_enter Try.func54, Try.ntmps54
  go_wp2
  refine bodyPost_ret (results_cell_row rfl _ _ (w.heap.size + 1) 61 _ (0, 0) _ rfl heap3'.2.1 Try.underlying61 rfl (by kernel_rfl)) rfl ?_
  go_wp2
  refine bodyPost_ret (results_cell_row rfl _ _ w.heap.size 61 _ (0, 0) _ rfl heap3'.1 Try.underlying61 rfl (by kernel_rfl)) rfl ?_
  exact ⟨rfl, (((Ext.refl _).alloc _).alloc _).alloc _⟩

/-- An event as a value. -/
def EAgg (x : Evt) (A : Option Addr) (c : Nat) : Value := .agg #[.int .i64 x.role, .bool x.send, .int .i64 x.peer, .int .i64 x.label, .slice A x.values.length c]
def eqE (x y : Evt) : Bool := x.role == y.role && (x.send == y.send && (x.peer == y.peer && (x.label == y.label && decide (x.values = y.values))))

set_option maxHeartbeats 1000000 in
theorem sameEvent_c (x y : Evt) (A B : Option Addr) (c d : Nat) (w : World) (hn : x.values.length ≤ 1000000) (hm : y.values.length ≤ 1000000) (ha : RdVals w A x.values) (hb : RdVals w B y.values) :
    Calls Try.prog 33 #[EAgg x A c, EAgg y B d] w fun e w' => e = .returned (.bool (eqE x y)) ∧ Ext w w' := by
  obtain ⟨r, s, p, l, vs⟩ := x
  obtain ⟨r', s', p', l', vs'⟩ := y
  unfold EAgg eqE
  dsimp only at hn hm ha hb ⊢
  have HA := hide ha
  have HB := hide hb
  have HN := hide hn
  have HM := hide hm
  clear ha hb hn hm
  cases g1 : r == r'
  · go_enter Try.func33, Try.ntmps33
    go_wp2
    go_ret
    exact ⟨by simp, ((Ext.refl _).alloc _).alloc _⟩
  cases g2 : s == s'
  · go_enter Try.func33, Try.ntmps33
    go_wp2
    go_ret
    exact ⟨by simp, ((Ext.refl _).alloc _).alloc _⟩
  cases g3 : p == p'
  · go_enter Try.func33, Try.ntmps33
    go_wp2
    go_ret
    exact ⟨by simp, ((Ext.refl _).alloc _).alloc _⟩
  cases g4 : l == l'
  · go_enter Try.func33, Try.ntmps33
    go_wp2
    go_ret
    exact ⟨by simp, ((Ext.refl _).alloc _).alloc _⟩
  go_enter Try.func33, Try.ntmps33
  go_wp2_with fail
  refine (sameValues_c A B c d vs vs' _ HN.out HM.out (HA.out.ext (((Ext.refl _).alloc _).alloc _)) (HB.out.ext (((Ext.refl _).alloc _).alloc _))).mono ?_
  rintro e w' ⟨rfl, q, rfl⟩
  obtain ⟨t, ht⟩ : ∃ t, decide (vs = vs') = t := ⟨_, rfl⟩
  rw [ht]
  have HT := hide ht
  clear ht
  go_wp2
  go_ret
  exact ⟨by rw [HT.out]; cases t <;> rfl, (((Ext.refl _).alloc _).alloc _).drewN _⟩

end Go.Proofs.Ytmiijlmjpaiinaa
