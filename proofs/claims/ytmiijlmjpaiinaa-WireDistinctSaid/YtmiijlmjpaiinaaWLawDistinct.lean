/- Different values have different encodings. No conditions. -/
import Derived.Test.YtmiijlmjpaiinaaWOpen
namespace Go.Proofs.Ytmiijlmjpaiinaa
open Go.ChangeShapes Go.WideShapes Go.ChangeAt Go.RowKit Go.Deep

theorem heap3 {w w1 : World} {o1 o2 o3 : Obj} (h : Ext (((w.alloc o1).alloc o2).alloc o3) w1) : w1.heap[w.heap.size]? = some o1 ∧ w1.heap[w.heap.size + 1]? = some o2 ∧ w1.heap[w.heap.size + 2]? = some o3 := by
  have hs1 : (w.alloc o1).heap.size = w.heap.size + 1 := by simp
  have hs2 : ((w.alloc o1).alloc o2).heap.size = w.heap.size + 2 := by simp
  have hs3 : (((w.alloc o1).alloc o2).alloc o3).heap.size = w.heap.size + 3 := by simp
  refine ⟨?_, ?_, ?_⟩
  · rw [h.block _ (by omega), Below.heap_alloc _ _ _ (by omega), Below.heap_alloc _ _ _ (by omega)]
    exact heap_alloc_new w o1
  · rw [h.block _ (by omega), Below.heap_alloc _ _ _ (by omega), ← hs1]
    exact heap_alloc_new _ o2
  · rw [h.block _ (by omega), ← hs2]
    exact heap_alloc_new _ o3

set_option maxHeartbeats 1000000 in
set_option maxRecDepth 100000 in
theorem distinct_walk (n0 n1 : Int) (s0 s1 : ByteArray) (A0 A1 : Option Addr) (c0 c1 : Nat) (x0 x1 : List Val) (w : World) (hn0 : P64 n0) (hn1 : P64 n1) (hl0 : x0.length ≤ 9223372036854775807) (hl1 : x1.length ≤ 9223372036854775807)
    (hx0 : RdVals w A0 x0) (hx1 : RdVals w A1 x1) (hp0 : ∀ x ∈ x0, P64 x.kind ∧ P64 x.n) (hp1 : ∀ x ∈ x1, P64 x.kind ∧ P64 x.n) :
    Calls Try.prog 3 #[.agg #[.int .i64 n0, .int .i64 n1], .agg #[.string s0, .string s1], .agg #[.slice A0 x0.length c0, .slice A1 x1.length c1]] w fun e w' => e = .returned (.bool true) ∧ Ext w w' := by
  have HN0 := hide hn0
  have HN1 := hide hn1
  have HX0 := hide hx0
  have HX1 := hide hx1
  have HP0 := hide hp0
  have HP1 := hide hp1
  have HL0 := hide hl0
  have HL1 := hide hl1
  clear hn0 hn1 hx0 hx1 hp0 hp1 hl0 hl1
  go_enter Try.func3, Try.ntmps3
  go_wp2_with fail
  refine (awake_c _).mono ?_
  rintro e w1 ⟨rfl, hE0⟩
  have HE := hide (((((Ext.refl w).alloc _).alloc _).alloc _).trans hE0)
  obtain ⟨b0, b1, b2⟩ := heap3 hE0
  have n0c := cell_of_row w1 _ 0 _ _ (0, 0) b0
  have n1c := cell_of_row w1 _ 1 _ _ (0, 0) b0
  have s0c := cell_of_row w1 _ 0 _ _ (0, 0) b1
  have s1c := cell_of_row w1 _ 1 _ _ (0, 0) b1
  have v0c := cell_of_row w1 _ 0 _ _ (0, 0) b2
  have v1c := cell_of_row w1 _ 1 _ _ (0, 0) b2
  have HSZ := hide (show w.heap.size + 2 < w1.heap.size from (Array.getElem?_eq_some_iff.1 b2).1)
  clear b0 b1 b2 hE0
  by_cases hs0 : 200 < s0.size
  · go_wp2
    go_ret
    exact ⟨rfl, HE.out⟩
  by_cases hs1 : 200 < s1.size
  · go_wp2
    go_ret
    exact ⟨rfl, HE.out⟩
  cases hf0 : (x0.all (fun x => decide (x.s.size ≤ 200)) && decide (x0.length ≤ 40))
  · have HF := hide hf0
    clear hf0
    go_wp2_with fail
    refine (fewValues_c A0 c0 x0 w1 HL0.out (HX0.out.ext HE.out)).mono ?_
    rintro e w' ⟨rfl, rfl⟩
    rw [HF.out]
    go_wp2
    go_ret
    exact ⟨rfl, HE.out⟩
  cases hf1 : (x1.all (fun x => decide (x.s.size ≤ 200)) && decide (x1.length ≤ 40))
  · have HF := hide hf0
    have HF1 := hide hf1
    clear hf0 hf1
    go_wp2_with fail
    refine (fewValues_c A0 c0 x0 w1 HL0.out (HX0.out.ext HE.out)).mono ?_
    rintro e w' ⟨rfl, rfl⟩
    rw [HF.out]
    go_wp2_with fail
    refine (fewValues_c A1 c1 x1 w1 HL1.out (HX1.out.ext HE.out)).mono ?_
    rintro e w' ⟨rfl, rfl⟩
    rw [HF1.out]
    go_wp2
    go_ret
    exact ⟨rfl, HE.out⟩
  have HF := hide hf0
  have HF1 := hide hf1
  clear hf0 hf1
  have hf0 := HF
  have hf1 := HF1
  go_wp2_with fail
  refine (fewValues_c A0 c0 x0 w1 HL0.out (HX0.out.ext HE.out)).mono ?_
  rintro e w' ⟨rfl, rfl⟩
  rw [HF.out]
  go_wp2_with fail
  refine (fewValues_c A1 c1 x1 w1 HL1.out (HX1.out.ext HE.out)).mono ?_
  rintro e w' ⟨rfl, rfl⟩
  rw [HF1.out]
  go_wp2
  have HS : Hid (∀ W, Ext w1 W → W.cell? ⟨w.heap.size, 0, none⟩ = some (.int .i64 n0) ∧ W.cell? ⟨w.heap.size, 1, none⟩ = some (.int .i64 n1) ∧ W.cell? ⟨w.heap.size + 1, 0, none⟩ = some (.string s0) ∧ W.cell? ⟨w.heap.size + 1, 1, none⟩ = some (.string s1)) := fun W hW =>
    ⟨(hW.cell (p := ⟨w.heap.size, 0, none⟩) (by have := HSZ.out; show w.heap.size < _; omega)).trans n0c, (hW.cell (p := ⟨w.heap.size, 1, none⟩) (by have := HSZ.out; show w.heap.size < _; omega)).trans n1c,
      (hW.cell (p := ⟨w.heap.size + 1, 0, none⟩) (by have := HSZ.out; show w.heap.size + 1 < _; omega)).trans s0c, (hW.cell (p := ⟨w.heap.size + 1, 1, none⟩) (by have := HSZ.out; show w.heap.size + 1 < _; omega)).trans s1c⟩
  go_cut [60] (fun s60 wx => s60 = .bool false ∧ Ext w1 wx)
  case first =>
    clear v0c v1c
    obtain ⟨t1, D1, G1⟩ : ∃ t, Hid (decide (encI n0 = encI n1) = t) ∧ (n0 == n1) = t := ⟨_, rfl, by
      rw [Bool.eq_iff_iff, decide_eq_true_iff, beq_iff_eq]
      exact (encI_eq HN0.out HN1.out).symm⟩
    obtain ⟨t2, D2, G2⟩ : ∃ t, Hid (decide (encBytes s0.data.toList = encBytes s1.data.toList) = t) ∧ (s0.toList == s1.toList) = t := ⟨_, rfl, by
      rw [Bool.eq_iff_iff, decide_eq_true_iff, beq_iff_eq, ByteArray.toList_eq, ByteArray.toList_eq]
      exact (encBytes_eq (Nat.le_trans (Nat.le_of_not_lt hs0) (by omega)) (Nat.le_trans (Nat.le_of_not_lt hs1) (by omega))).symm⟩
    have HS0 := hide (show s0.size ≤ 1000000 by omega)
    have HS1 := hide (show s1.size ≤ 1000000 by omega)
    cases t1 <;> cases t2
    all_goals
      skip
      go_region_held3 (fun W => W.cell? ⟨w.heap.size, 0, none⟩ = some (.int .i64 n0) ∧ W.cell? ⟨w.heap.size, 1, none⟩ = some (.int .i64 n1) ∧ W.cell? ⟨w.heap.size + 1, 0, none⟩ = some (.string s0) ∧ W.cell? ⟨w.heap.size + 1, 1, none⟩ = some (.string s1))
        (exact HS.out _ (by repeat (first | with_reducible exact Ext.refl _ | with_reducible refine Ext.drew ?_ | with_reducible refine Ext.trans ?_ hEa | with_reducible refine Ext.trans ?_ hEb | with_reducible refine Ext.trans ?_ hEc | with_reducible refine Ext.trans ?_ hEd)))
        (first
         | (go_at_call_of 11 n0; refine (intNil_c n0 _ HN0.out).mono ?_; rintro e wa ⟨Aa, ca, rfl, hra, hEa⟩)
         | (go_at_call_of 11 n1; refine (intNil_c n1 _ HN1.out).mono ?_; rintro e wb ⟨Ab, cb, rfl, hrb, hEb⟩)
         | (go_at_call_of 10 Ab; refine (same_c Aa Ab ca cb _ _ _ (hra.ext (by repeat (first | with_reducible exact Ext.refl _ | with_reducible refine Ext.drew ?_ | with_reducible refine Ext.trans ?_ hEa | with_reducible refine Ext.trans ?_ hEb | with_reducible refine Ext.trans ?_ hEc | with_reducible refine Ext.trans ?_ hEd))) (hrb.ext (by repeat (first | with_reducible exact Ext.refl _ | with_reducible refine Ext.drew ?_ | with_reducible refine Ext.trans ?_ hEa | with_reducible refine Ext.trans ?_ hEb | with_reducible refine Ext.trans ?_ hEc | with_reducible refine Ext.trans ?_ hEd)))).mono ?_; rintro e w' ⟨rfl, rfl⟩; rw [D1.out])
         | (go_at_call_of 12 s0; refine (textNil_c s0 _ HS0.out).mono ?_; rintro e wc ⟨Ac, cc, rfl, hrc, hEc⟩)
         | (go_at_call_of 12 s1; refine (textNil_c s1 _ HS1.out).mono ?_; rintro e wd ⟨Ad, cd, rfl, hrd, hEd⟩)
         | (go_at_call_of 10 Ad; refine (same_c Ac Ad cc cd _ _ _ (hrc.ext (by repeat (first | with_reducible exact Ext.refl _ | with_reducible refine Ext.drew ?_ | with_reducible refine Ext.trans ?_ hEa | with_reducible refine Ext.trans ?_ hEb | with_reducible refine Ext.trans ?_ hEc | with_reducible refine Ext.trans ?_ hEd))) (hrd.ext (by repeat (first | with_reducible exact Ext.refl _ | with_reducible refine Ext.drew ?_ | with_reducible refine Ext.trans ?_ hEa | with_reducible refine Ext.trans ?_ hEb | with_reducible refine Ext.trans ?_ hEc | with_reducible refine Ext.trans ?_ hEd)))).mono ?_; rintro e w' ⟨rfl, rfl⟩; rw [D2.out]))
    all_goals
      go_wp2
      go_meet
      case rel => exact ⟨rfl, (by repeat (first | with_reducible exact Ext.refl _ | with_reducible refine Ext.drew ?_ | with_reducible refine Ext.trans ?_ hEa | with_reducible refine Ext.trans ?_ hEb | with_reducible refine Ext.trans ?_ hEc | with_reducible refine Ext.trans ?_ hEd))⟩
  case rest =>
    obtain ⟨rfl, hE1⟩ := hcut
    have HE1 := hide hE1
    rw [Bool.and_eq_true, List.all_eq_true, decide_eq_true_iff] at hf0 hf1
    have HV : Hid (∀ k, k < 2 → ∃ A c xs, wc.cell? ⟨w.heap.size + 2, k, none⟩ = some (.slice A xs.length c) ∧ RdVals wc A xs ∧ xs.length ≤ 40 ∧
        (((0 < k → ∀ v ∈ x0, properV v = true) ∧ (1 < k → ∀ v ∈ x1, properV v = true)) → (∀ v ∈ xs, properV v = true) → ((0 < k + 1 → ∀ v ∈ x0, properV v = true) ∧ (1 < k + 1 → ∀ v ∈ x1, properV v = true)))) := by
      intro k hk
      by_cases h0 : k = 0
      · subst h0
        exact ⟨A0, c0, x0, (hE1.cell (by have := HSZ.out; show w.heap.size + 2 < _; omega)).trans v0c, (HX0.out.ext HE.out).ext hE1, hf0.2, fun _ h => ⟨fun _ => h, fun h => by omega⟩⟩
      · have : k = 1 := by omega
        subst this
        exact ⟨A1, c1, x1, (hE1.cell (by have := HSZ.out; show w.heap.size + 2 < _; omega)).trans v1c, (HX1.out.ext HE.out).ext hE1, hf1.2, fun h1 h => ⟨fun _ => h1.1 (by omega), fun _ => h⟩⟩
    have HVC : Hid (∀ W, Ext wc W → W.cell? ⟨w.heap.size + 2, 0, none⟩ = some (.slice A0 x0.length c0) ∧ W.cell? ⟨w.heap.size + 2, 1, none⟩ = some (.slice A1 x1.length c1)) := fun W hW =>
      ⟨((hE1.trans hW).cell (by have := HSZ.out; show w.heap.size + 2 < _; omega)).trans v0c, ((hE1.trans hW).cell (by have := HSZ.out; show w.heap.size + 2 < _; omega)).trans v1c⟩
    clear hE1 n0c n1c s0c s1c v0c v1c HS hs0 hs1
    have HF0' := hide hf0
    have HF1' := hide hf1
    clear hf0 hf1
    go_wp2
    go_loopw [6, 7, 8] (fun _ i _ wr => ∃ k : Nat, k ≤ 2 ∧ i = .int .i64 k ∧ Hid ((0 < k → ∀ v ∈ x0, properV v = true) ∧ (1 < k → ∀ v ∈ x1, properV v = true)) ∧ Ext wc wr) (fun _ i _ _ => 2 - (intOf i).toNat)
    case atStart => exact ⟨0, by omega, rfl, ⟨fun h => by omega, fun h => by omega⟩, Ext.refl _⟩
    case round =>
      obtain ⟨k, hk, rfl, HP, hE2⟩ := hrel
      by_cases hk2 : k < 2
      · have hkd : decide ((k : Int) < 2) = true := decide_eq_true (by omega)
        obtain ⟨A, c, xs, hc, hxs, hl, hnext⟩ := HV.out k hk2
        have hb := cell_lt hc
        have HC := hide (fun W (hW : Ext wc W) => (hW.cell (p := ⟨w.heap.size + 2, k, none⟩) hb).trans hc)
        have HXS := hide hxs
        have HNX := hide (hnext HP.out)
        clear hc hxs hnext HV HP hb
        have HE2 := hide hE2
        clear hE2
        go_wp2
        go_loopw [6, 8] (fun _ j wr => ∃ m : Nat, m ≤ xs.length ∧ j = .int .i64 m ∧ Hid (∀ v ∈ xs.take m, properV v = true) ∧ Ext wc wr) (fun _ j _ => xs.length - (intOf j).toNat)
        case atStart => exact ⟨0, Nat.zero_le _, rfl, by show ∀ x ∈ _, _; simp, HE2.out⟩
        case round =>
          obtain ⟨m, hm, rfl, HT, hE3⟩ := hrel
          have hc := HC.out _ hE3
          by_cases hlt : m < xs.length
          · obtain ⟨p, o, x, rfl, -, hx, hpl, h1, h2, h3⟩ := (HXS.out.ext hE3).at_ hlt
            have HX := hide hx
            have HE3 := hide hE3
            clear hx hE3
            cases hp : properV x
            · go_wp2_with fail
              refine (proper_c x _).mono ?_
              rintro e w' ⟨rfl, hE4⟩
              rw [hp]
              go_wp2
              go_ret
              exact ⟨rfl, ((HE.out.trans HE1.out).trans HE3.out).trans hE4⟩
            · go_wp2_with fail
              refine (proper_c x _).mono ?_
              rintro e w' ⟨rfl, hE4⟩
              rw [hp]
              go_wp2
              go_roundw
              case rel =>
                refine ⟨m + 1, by omega, by go_num, ?_, HE3.out.trans hE4⟩
                show ∀ x ∈ _, _
                rw [List.take_add_one, HX.out]
                intro z hz
                rw [List.mem_append] at hz
                rcases hz with hz | hz
                · exact HT.out z hz
                · simp at hz; subst hz; exact hp
              case measure => simp [intOf]; omega
          · have HE3 := hide hE3
            clear hE3
            have ht := HT.out
            rw [List.take_of_length_le (by omega)] at ht
            have HN := hide (HNX.out ht)
            clear ht
            go_wp2
            go_roundw
            case rel => exact ⟨k + 1, by omega, by go_num, HN.out, HE3.out⟩
            case measure => simp [intOf]; omega
      · obtain rfl : k = 2 := by omega
        have hok : ∀ (xs : List Val), (∀ x ∈ xs, P64 x.kind ∧ P64 x.n) → ((∀ x ∈ xs, decide (x.s.size ≤ 200) = true) ∧ xs.length ≤ 40) → ∀ v ∈ xs, OkV v := by
          intro xs h1 h2 v hv
          have := of_decide_eq_true (h2.1 v hv)
          exact ⟨(h1 v hv).1, (h1 v hv).2, by omega⟩
        have HOK0 := hide (hok x0 HP0.out HF0'.out)
        have HOK1 := hide (hok x1 HP1.out HF1'.out)
        have D3 : Hid (decide (encVals x0 = encVals x1) = decide (x0 = x1)) := by
          show _ = _
          rw [decide_eq_decide]
          exact encVals_eq (by have := HF0'.out.2; omega) (by have := HF1'.out.2; omega) (fun v hv => ⟨HOK0.out v hv, HP.out.1 (by omega) v hv⟩) (fun v hv => ⟨HOK1.out v hv, HP.out.2 (by omega) v hv⟩)
        obtain ⟨t, ht⟩ : ∃ t, t = decide (x0 = x1) := ⟨_, rfl⟩
        rw [← ht] at D3
        obtain ⟨v0d, v1d⟩ := HVC.out _ hE2
        have HD := hide ht
        have HR0 := hide ((HX0.out.ext HE.out).ext HE1.out)
        have HR1 := hide ((HX1.out.ext HE.out).ext HE1.out)
        have HLL := hide (And.intro HF0'.out.2 HF1'.out.2)
        clear HV ht HX0 HX1 hok HP
        go_wp2
        go_region_held3 (fun W => W.cell? ⟨w.heap.size + 2, 0, none⟩ = some (.slice A0 x0.length c0) ∧ W.cell? ⟨w.heap.size + 2, 1, none⟩ = some (.slice A1 x1.length c1))
          (exact HVC.out _ (by repeat (first | with_reducible exact Ext.refl _ | with_reducible refine Ext.drew ?_ | with_reducible refine Ext.drewN ?_ _ | with_reducible refine Ext.trans ?_ hEa | with_reducible refine Ext.trans ?_ hEb | with_reducible exact hE2)))
          (first
           | (go_at_call_of 14 A0; refine (valuesNil_c A0 c0 x0 _ (Nat.le_trans HLL.out.1 (by omega)) HOK0.out (HR0.out.ext (by repeat (first | with_reducible exact Ext.refl _ | with_reducible refine Ext.drew ?_ | with_reducible refine Ext.drewN ?_ _ | with_reducible refine Ext.trans ?_ hEa | with_reducible refine Ext.trans ?_ hEb | with_reducible exact hE2)))).mono ?_; rintro e wa ⟨Aa, ca, rfl, hra, hEa⟩)
           | (go_at_call_of 14 A1; refine (valuesNil_c A1 c1 x1 _ (Nat.le_trans HLL.out.2 (by omega)) HOK1.out (HR1.out.ext (by repeat (first | with_reducible exact Ext.refl _ | with_reducible refine Ext.drew ?_ | with_reducible refine Ext.drewN ?_ _ | with_reducible refine Ext.trans ?_ hEa | with_reducible refine Ext.trans ?_ hEb | with_reducible exact hE2)))).mono ?_; rintro e wb ⟨Ab, cb, rfl, hrb, hEb⟩)
           | (go_at_call 10; refine (same_c Aa Ab ca cb _ _ _ (hra.ext (by repeat (first | with_reducible exact Ext.refl _ | with_reducible refine Ext.drew ?_ | with_reducible refine Ext.drewN ?_ _ | with_reducible refine Ext.trans ?_ hEa | with_reducible refine Ext.trans ?_ hEb))) (hrb.ext (by repeat (first | with_reducible exact Ext.refl _ | with_reducible refine Ext.drew ?_ | with_reducible refine Ext.drewN ?_ _ | with_reducible refine Ext.trans ?_ hEa | with_reducible refine Ext.trans ?_ hEb)))).mono ?_; rintro e w' ⟨rfl, rfl⟩; rw [D3.out])
           | (go_at_call 15; refine (sameValues_c A0 A1 c0 c1 x0 x1 _ (Nat.le_trans HLL.out.1 (by omega)) (Nat.le_trans HLL.out.2 (by omega)) (HR0.out.ext (by repeat (first | with_reducible exact Ext.refl _ | with_reducible refine Ext.drew ?_ | with_reducible refine Ext.drewN ?_ _ | with_reducible refine Ext.trans ?_ hEa | with_reducible refine Ext.trans ?_ hEb | with_reducible exact hE2))) (HR1.out.ext (by repeat (first | with_reducible exact Ext.refl _ | with_reducible refine Ext.drew ?_ | with_reducible refine Ext.drewN ?_ _ | with_reducible refine Ext.trans ?_ hEa | with_reducible refine Ext.trans ?_ hEb | with_reducible exact hE2)))).mono ?_; rintro e w' ⟨rfl, q, rfl⟩; rw [← HD.out]))
        all_goals
          go_wp2
          go_ret
          exact ⟨by cases t <;> rfl, (HE.out.trans HE1.out).trans (by repeat (first | with_reducible exact Ext.refl _ | with_reducible refine Ext.drew ?_ | with_reducible refine Ext.drewN ?_ _ | with_reducible refine Ext.trans ?_ hEa | with_reducible refine Ext.trans ?_ hEb | with_reducible exact hE2))⟩

set_option maxRecDepth 100000 in
theorem wireDistinct_lifted (os : Os) (started : os.Started) (H : Type) (enc : TypeId × Value → H) :
    ReturnsInHanded {} Try.checked os 3 .any (Rows.wireDistinctSpec.pre6 enc Try.prog Try.f3 Rows.wireDistinctRow.domain false) (Rows.wireDistinctSpec.post enc Try.prog Try.f3 false true false false) := by
  refine law_lifted started Rows.wireDistinctSpec rfl (by kernel_rfl) Try.func3 rfl
    (fun ds h => by match ds, h with | [_, _, _], _ => rfl) (of_decide_eq_true (by kernel_rfl))
    (ChangeSpec.witness6 (enc := enc) (C := Try.checked) false ⟨#[], #[.agg #[.int .i64 0, .int .i64 0], .agg #[.string ⟨#[]⟩, .string ⟨#[]⟩], .agg #[.slice none 0 0, .slice none 0 0]], []⟩ 8 (by kernel_rfl) (by kernel_rfl) (by kernel_rfl) (by kernel_rfl)) ?_
  intro W base args ds p hval hA _
  rw [Try.params3] at hA hval
  obtain ⟨v0, v1, v2, d0, d1, d2, p0, p1, p2, rfl, rfl, rfl, h0, h1, h2⟩ := trodAll_three hA
  obtain ⟨n0, n1, rfl, hn0, hn1⟩ := open_two I64 P64 Try.underlying22 (by kernel_rfl) (by kernel_rfl) (fun _ _ _ h => el_int h) (hval 0 _ v0 rfl rfl) h0
  obtain ⟨s0, s1, rfl, _, _⟩ := open_two Value.string (fun s => s.size ≤ maxLen) Try.underlying23 (by kernel_rfl) (by kernel_rfl) (fun _ _ _ h => el_str h) (hval 1 _ v1 rfl rfl) h1
  obtain ⟨⟨A0, c0, x0⟩, ⟨A1, c1, x1⟩, rfl, ⟨r0, q0, l0⟩, ⟨r1, q1, l1⟩⟩ := open_two (fun a : Option Addr × Nat × List Val => Value.slice a.1 a.2.2.length a.2.1) (fun a => RdVals W a.1 a.2.2 ∧ (∀ x ∈ a.2.2, P64 x.kind ∧ P64 x.n) ∧ a.2.2.length ≤ maxLen) Try.underlying25 (by kernel_rfl) (by kernel_rfl) (fun _ _ _ h => el_vals Try.underlying24 h) (hval 2 _ v2 rfl rfl) h2
  exact distinct_walk n0 n1 s0 s1 A0 A1 c0 c1 x0 x1 W hn0 hn1 (by simpa [maxLen] using l0) (by simpa [maxLen] using l1) r0 r1 q0 q1

theorem wireDistinct_holds : Rows.WireDistinctSaid :=
  OpenClaim.holds_of_wide 3 Try.f3 rfl rfl rfl rfl rfl rfl rfl ⟨rfl, rfl, rfl, rfl, rfl⟩ rfl rfl rfl rfl rfl (by kernel_rfl) Try.func3 (by kernel_rfl)
    (of_decide_eq_true (by kernel_rfl)) (by unfold Func.isWrapper; first | (rw [if_pos (by decide +kernel)]; kernel_rfl) | (rw [if_neg (by decide +kernel)]; exact ⟨rfl, rfl⟩))
    (fun os started H enc _ => wireDistinct_lifted os started H enc)

end Go.Proofs.Ytmiijlmjpaiinaa
