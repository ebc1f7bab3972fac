/- A nil reader returns ErrState and zero values. No conditions. -/
import Derived.Test.YtmiijlmjpaiinaaWNilRd
namespace Go.Proofs.Ytmiijlmjpaiinaa
open Go.ChangeShapes Go.WideShapes Go.ChangeAt Go.RowKit Go.Deep

set_option maxHeartbeats 4000000 in
set_option maxRecDepth 100000 in
theorem nil_walk (kd lo hi : Int) (w : World) :
    Calls Try.prog 5 #[.agg #[.int .i64 kd, .int .i64 lo, .int .i64 hi]] w fun e w' => e = .returned (.bool true) ∧ Ext w w' := by
  go_enter Try.func5, Try.ntmps5
  go_wp2_with fail
  refine (awake_c _).mono ?_
  rintro e w1 ⟨rfl, hE0⟩
  have HE := hide (((Ext.refl w).alloc _).trans hE0)
  have hb : w1.heap[w.heap.size]? = some (.cells #[.int .i64 kd, .int .i64 lo, .int .i64 hi] 56 (0, 0)) := (hE0.heap (by simp)).trans (heap_alloc_new w _)
  have HC := hide (fun W (hW : Ext w1 W) => And.intro (cell_of_row W w.heap.size 1 _ _ (0, 0) ((hW.heap (Array.getElem?_eq_some_iff.1 hb).1).trans hb)) (cell_of_row W w.heap.size 2 _ _ (0, 0) ((hW.heap (Array.getElem?_eq_some_iff.1 hb).1).trans hb)))
  clear hb hE0
  go_wp2_with fail
  refine (Int_nil w1).mono ?_
  rintro e w2 ⟨rfl, hE2⟩
  obtain ⟨lo2, hi2⟩ := HC.out _ hE2
  have HE2 := hide hE2
  clear hE2
  go_wp2_with fail
  refine (Bounded_nil lo hi w2).mono ?_
  rintro e w3 ⟨rfl, hE⟩
  have HE3 := hide (HE2.out.trans hE)
  obtain ⟨-, hi3⟩ := HC.out _ HE3.out
  clear hE lo2 hi2 HE2
  go_wp2_with fail
  refine (Bool_nil w3).mono ?_
  rintro e w4 ⟨rfl, hE⟩
  have HE4 := hide (HE3.out.trans hE)
  obtain ⟨-, hi4⟩ := HC.out _ HE4.out
  clear hE HE3 hi3
  go_wp2_with fail
  refine (Text_nil hi w4).mono ?_
  rintro e w5 ⟨rfl, hE⟩
  have HE5 := hide (HE4.out.trans hE)
  obtain ⟨-, hi5⟩ := HC.out _ HE5.out
  clear hE HE4 hi4
  go_wp2_with fail
  refine (Bytes_nil hi w5).mono ?_
  rintro e w6 ⟨rfl, hE⟩
  have HE6 := hide (HE5.out.trans hE)
  obtain ⟨-, hi6⟩ := HC.out _ HE6.out
  clear hE HE5 hi5
  go_wp2_with fail
  refine (Ints_nil hi w6).mono ?_
  rintro e w7 ⟨rfl, hE⟩
  have HE7 := hide (HE6.out.trans hE)
  obtain ⟨-, hi7⟩ := HC.out _ HE7.out
  clear hE HE6 hi6
  go_wp2_with fail
  refine (Value_nil w7).mono ?_
  rintro e w8 ⟨rfl, hE⟩
  have HE8 := hide (HE7.out.trans hE)
  obtain ⟨-, hi8⟩ := HC.out _ HE8.out
  clear hE HE7 hi7
  go_wp2_with fail
  refine (Values_nil hi w8).mono ?_
  rintro e w9 ⟨rfl, hE⟩
  have HE9 := hide (HE8.out.trans hE)
  clear hE HE8 hi8
  go_wp2_with fail
  refine (Event_nil w9).mono ?_
  rintro e w10 ⟨rfl, hE⟩
  have HE10 := hide (HE9.out.trans hE)
  clear hE HE9
  go_wp2_with fail
  refine (sameEvent_c ⟨0, false, 0, 0, []⟩ ⟨0, false, 0, 0, []⟩ none none 0 0 w10 (by simp) (by simp) (Reads.nil _ _ _) (Reads.nil _ _ _)).mono ?_
  rintro e w11 ⟨rfl, hE⟩
  rw [show eqE ⟨0, false, 0, 0, []⟩ ⟨0, false, 0, 0, []⟩ = true from rfl]
  have HE11 := hide (HE10.out.trans hE)
  clear hE HE10
  go_wp2_with fail
  refine (left_nil w11).mono ?_
  rintro e w12 ⟨rfl, rfl⟩
  go_wp2_with fail
  refine (end_nil w11).mono ?_
  rintro e w12 ⟨rfl, rfl⟩
  go_wp2
  go_ret
  exact ⟨rfl, HE.out.trans HE11.out⟩

theorem open_read {H : Type} {enc : TypeId × Value → H} {W : World} {base : Nat} {v : Value} {d : DataW H} {p : List MemPlace} (hv : Value.okWide Try.prog W .any base 56 v)
    (h : DataW.Trod enc Try.prog W 0 (fun _ => true) true 56 v d p) : ∃ a b c : Int, v = .agg #[.int .i64 a, .int .i64 b, .int .i64 c] ∧ P64 a ∧ P64 b ∧ P64 c := by
  simp only [Value.okWide, Try.underlying56] at hv
  obtain ⟨cs, rfl, hsz, _⟩ := hv
  obtain ⟨fuel, hf⟩ := h
  obtain ⟨y0, y1, y2, m, _, hl, h0, h1, h2⟩ := trod_struct3 Try.underlying56 hf
  have hl3 : cs.toList.length = 3 := hl.trans (by kernel_rfl)
  have hcs : (Value.agg cs).cells.toList = cs.toList := rfl
  rw [hcs] at h0 h1 h2
  obtain ⟨l⟩ := cs
  match l, hl3 with
  | [a, b, c], _ =>
    have e3 : Try.prog.cellsOf 3 = 1 := by kernel_rfl
    simp only [e3] at h0 h1 h2
    obtain ⟨z0, r0, _, w0⟩ := DataW.trod_int Try.underlying3 h0
    obtain ⟨z1, r1, _, w1⟩ := DataW.trod_int Try.underlying3 h1
    obtain ⟨z2, r2, _, w2⟩ := DataW.trod_int Try.underlying3 h2
    simp at r0 r1 r2
    subst r0; subst r1; subst r2
    exact ⟨z0, z1, z2, rfl, bounds_i64 w0, bounds_i64 w1, bounds_i64 w2⟩

set_option maxRecDepth 100000 in
theorem wireNil_lifted (os : Os) (started : os.Started) (H : Type) (enc : TypeId × Value → H) :
    ReturnsInHanded {} Try.checked os 5 .any (Rows.wireNilSpec.pre6 enc Try.prog Try.f5 Rows.wireNilRow.domain false) (Rows.wireNilSpec.post enc Try.prog Try.f5 false true false false) := by
  refine law_lifted started Rows.wireNilSpec rfl (by kernel_rfl) Try.func5 rfl
    (fun ds h => by match ds, h with | [_], _ => rfl) (of_decide_eq_true (by kernel_rfl))
    (ChangeSpec.witness6 (enc := enc) (C := Try.checked) false ⟨#[], #[.agg #[.int .i64 0, .int .i64 0, .int .i64 0]], []⟩ 8 (by kernel_rfl) (by kernel_rfl) (by kernel_rfl) (by kernel_rfl)) ?_
  intro W base args ds p hval hA _
  rw [Try.params5] at hA hval
  obtain ⟨v0, vs', d0, ds', p0, q, h0, rfl, rfl, h1, h2⟩ := trodAll_cons hA
  obtain ⟨rfl, rfl, rfl⟩ := trodAll_nil h2
  obtain ⟨l⟩ := args
  have h0 : l = [v0] := h0
  subst h0
  obtain ⟨a, b, c, rfl, _, _, _⟩ := open_read (hval 0 _ v0 rfl rfl) h1
  exact nil_walk a b c W

theorem wireNil_holds : Rows.WireNilSaid :=
  OpenClaim.holds_of_wide 5 Try.f5 rfl rfl rfl rfl rfl rfl rfl ⟨rfl, rfl, rfl, rfl, rfl⟩ rfl rfl rfl rfl rfl (by kernel_rfl) Try.func5 (by kernel_rfl)
    (of_decide_eq_true (by kernel_rfl)) (by unfold Func.isWrapper; first | (rw [if_pos (by decide +kernel)]; kernel_rfl) | (rw [if_neg (by decide +kernel)]; exact ⟨rfl, rfl⟩))
    (fun os started H enc _ => wireNil_lifted os started H enc)

end Go.Proofs.Ytmiijlmjpaiinaa
