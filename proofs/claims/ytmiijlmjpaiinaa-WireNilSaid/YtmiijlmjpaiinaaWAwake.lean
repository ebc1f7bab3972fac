/- Walks over layer 1's statements: their first check. -/
import Derived.Test.YtmiijlmjpaiinaaWRead3
namespace Go.Proofs.Ytmiijlmjpaiinaa
open Go.RowKit

theorem enc64 : encI 64 = [128, 1] := by
  unfold encI
  rw [show zig 64 = 128 from rfl, encU_big (by omega), encU_small (by omega)]
  rfl
theorem encA : encV ⟨2, 0, ⟨#[97]⟩⟩ = [4, 2, 97] := by
  unfold encV encBytes encI
  simp [zig, encU_small, ByteArray.size]
theorem P64_lit {n : Int} (h : 0 ≤ n) (h' : n ≤ 1000000000000) : P64 n := ⟨by omega, by omega⟩

theorem Own.lit_base {w : World} (base N n : Nat) (xs : List UInt8) (cs : List Value) (hN : N = w.heap.size) (hb : base ≤ w.heap.size) (h : cs = xs.map U8) (hn : n = xs.length) (hl : xs.length ≤ 1000) :
    Own 5 U8 (w.alloc (.cells cs.toArray 5)) base (.slice (some ⟨N, 0, none⟩) n n) xs := by
  subst h; subst hn
  exact Own.lit_at w base N hN hb xs (by omega)

set_option maxHeartbeats 1000000 in
theorem awake_c (w : World) : Calls Try.prog 8 #[] w fun e w' => e = .returned (.bool true) ∧ Ext w w' := by
  go_enter Try.func8, Try.ntmps8
  go_wp2_with fail
  have l1 : Own 5 U8 (w.alloc (.cells #[.int .u8 128, .int .u8 0] 5)) 0 (.slice (some ⟨w.heap.size, 0, none⟩) 2 2) [128, 0] := Own.lit w 0 (Nat.zero_le _) [128, 0] (by simp)
  refine (new_c _ 2 [128, 0] _ l1.rd.2 (by simp)).mono ?_
  rintro e w1 ⟨g, rfl, hgs, hR, hE1⟩
  have HE1 := hide (((Ext.refl w).alloc _).trans hE1)
  have HR := hide hR
  have HG := hide (hgs)
  clear l1 hE1 hgs hR
  go_wp2_with fail
  refine (wInt_c _ 64 (w1.heap.size) [9] _ (P64_lit (by omega) (by omega)) ?hb ?hv (by simp)).mono ?_
  case hb => simp; omega
  case hv => exact Own.lit_base _ _ _ [9] [.int .u8 9] (by simp) (by simp) rfl rfl (by simp)
  rintro e w2 ⟨v2, rfl, hown2, hg2⟩
  rw [enc64] at hown2
  obtain ⟨A2, c2, rfl, hrd2⟩ := hown2.reads
  have hbox : w2.heap[w1.heap.size]? = some (.cells #[.int .i64 2, .int .i64 0, .string ⟨#[97]⟩] 34 (0, 0)) :=
    (hg2.1.block w1.heap.size (by simp; omega) (by simp [Value.ownBlock])).trans ((((Ext.refl _).alloc _).heap (by simp)).trans (heap_alloc_new w1 _))
  have HE2 := hide (Ext.trans HE1.out (((((Ext.refl w1).alloc _).alloc _).grown hg2.1 (by simp [Value.ownBlock]))))
  have HBL := hide (show w1.heap.size < w2.heap.size from (Array.getElem?_eq_some_iff.1 hbox).1)
  have HR2 := hide (HR.out.ext (((((Ext.refl w1).alloc _).alloc _).grown hg2.1 (by simp [Value.ownBlock]))))
  clear hg2 hown2 HR HE1
  go_wp2_with fail
  refine (same_c A2 _ c2 3 [9, 128, 1] [9, 128, 1] _ ?hx ?hy).mono ?_
  case hx => exact hrd2.alloc _
  case hy => exact (Own.lit_base 0 _ _ [9, 128, 1] [.int .u8 9, .int .u8 128, .int .u8 1] rfl (by simp) rfl rfl (by simp)).rd.2
  rintro e w3 ⟨rfl, hw3⟩
  rw [show decide (([9, 128, 1] : List UInt8) = [9, 128, 1]) = true from rfl]
  have hbox3 : w3.heap[w1.heap.size]? = some (.cells #[.int .i64 2, .int .i64 0, .string ⟨#[97]⟩] 34 (0, 0)) := by
    rw [← hw3]; exact (((Ext.refl _).alloc _).heap HBL.out).trans hbox
  have HE3 : Hid (Ext w w3) := by show Ext _ _; rw [← hw3]; exact HE2.out.alloc _
  have HR3 : Hid (RS w3 g [128, 0] 0 false) := by show RS _ _ _ _ _; rw [← hw3]; exact HR2.out.ext ((Ext.refl _).alloc _)
  have b0 := cell_of_row w3 w1.heap.size 0 _ _ (0, 0) hbox3
  have b1 := cell_of_row w3 w1.heap.size 1 _ _ (0, 0) hbox3
  have b2 := cell_of_row w3 w1.heap.size 2 _ _ (0, 0) hbox3
  clear hw3 hbox hrd2 HE2 HR2 hbox3 HBL
  go_wp2_with fail
  refine (wValue_c (.slice none 0 0) ⟨2, 0, ⟨#[97]⟩⟩ w3.heap.size [] w3 ⟨P64_lit (by simp) (by simp), P64_lit (by simp) (by simp), by simp [ByteArray.size]⟩ (Nat.le_refl _) (Own.nil _ _) (by simp)).mono ?_
  rintro e w4 ⟨v4, rfl, hown4, hg4⟩
  rw [encA, List.nil_append] at hown4
  have hE34 : Ext w3 w4 := Ext.of_grownBy (by simpa [Value.ownBlock] using hg4.1)
  have HE4 := hide (HE3.out.trans hE34)
  have HR4 := hide (HR3.out.ext hE34)
  clear HE3 HR3 hE34 hg4 b0 b1 b2
  obtain ⟨A4, c4, rfl, hrd4⟩ := hown4.reads
  clear hown4
  go_wp2_with fail
  refine (same_c A4 _ c4 3 [4, 2, 97] [4, 2, 97] _ ?hx ?hy).mono ?_
  case hx => exact hrd4.alloc _
  case hy => exact (Own.lit_base 0 _ _ [4, 2, 97] [.int .u8 4, .int .u8 2, .int .u8 97] rfl (by simp) rfl rfl (by simp)).rd.2
  rintro e w5 ⟨rfl, hw5⟩
  rw [show decide (([4, 2, 97] : List UInt8) = [4, 2, 97]) = true from rfl]
  have HE5 : Hid (Ext w w5) := by show Ext _ _; rw [← hw5]; exact HE4.out.alloc _
  have HR5 : Hid (RS w5 g [128, 0] 0 false) := by show RS _ _ _ _ _; rw [← hw5]; exact HR4.out.ext ((Ext.refl _).alloc _)
  clear hw5 hrd4 HE4 HR4
  go_wp2_with fail
  refine (Int_c g [128, 0] 0 w5 HR5.out).mono ?_
  intro e w6 hp
  obtain ⟨hg6, rfl, hr6⟩ := hp.of_none (by rfl)
  clear hp
  have HE6 := hide (HE5.out.grown hg6 (fun k hk => by obtain rfl := Option.some.inj hk; exact Nat.le_trans (by simp) HG.out))
  have HR6 := hide hr6
  clear hg6 hr6 HR5 HE5
  go_wp2_with fail
  refine (end_c g [128, 0] 0 true w6 HR6.out).mono ?_
  rintro e w7 ⟨rfl, q7, rfl⟩
  rw [show endN [128, 0] 0 true = 4 from rfl]
  go_wp2
  go_ret
  exact ⟨rfl, HE6.out.drewN _⟩

end Go.Proofs.Ytmiijlmjpaiinaa
