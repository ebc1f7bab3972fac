/- Walks over layer 7 and its reference: the functions that make clocks. -/
import Derived.Test.YtomejdempmbbmaaVRead2
import Derived.Deep.RegionLaw
namespace Go.Proofs.Ytomejdempmbbmaa
open Go.RowKit

theorem int_info : (Try.prog.info? 3).map (fun i => (i.zero, i.size, i.bytes)) = some (some (.int .i64 0), 1, 8) := by kernel_rfl

/-- A slice of ints of the call's own. -/
def OwnInts (w : World) (base : Nat) (v : Value) (l : List Int) : Prop := w.ownsRow base 3 1 v l.length (l.map (Value.int .i64))
theorem OwnInts.nil (w : World) (base : Nat) : OwnInts w base (.slice none 0 0) [] := World.ownsRow_nil w base 3 1
theorem OwnInts.lit (w : World) (base : Nat) (hb : base ≤ w.heap.size) (l : List Int) (hl : l.length ≤ 1000000) :
    OwnInts (w.alloc (.cells (l.map (Value.int .i64)).toArray 3)) base (.slice (some ⟨w.heap.size, 0, none⟩) l.length l.length) l := by
  have h := World.ownsRow_lit (e := 3) (size := 1) w (l.map (Value.int .i64)).toArray l.length hb (by unfold maxLen; omega) (by simp)
  exact h
theorem OwnInts.reads {w : World} {base : Nat} {v : Value} {l : List Int} (h : OwnInts w base v l) : ∃ A c, v = .slice A l.length c ∧ Ints w A l := by
  rcases h.2 with ⟨rfl, h0⟩ | ⟨g, cap, cur, rfl, _⟩
  · have : l = [] := List.eq_nil_of_length_eq_zero h0
    subst this
    exact ⟨none, 0, rfl, Ints.nil w none⟩
  · exact ⟨_, _, rfl, Reads.of_own h⟩
theorem OwnInts.ints {w : World} {base : Nat} {A : Option Addr} {n c : Nat} {l : List Int} (h : OwnInts w base (.slice A n c) l) : Ints w A l := by
  obtain ⟨A', c', hv, hi⟩ := h.reads
  injection hv with h1 h2 h3
  subst h1
  exact hi
theorem Ints.one (w : World) (x : Int) : Ints (w.alloc (.cells #[.int .i64 x] 3)) (some ⟨w.heap.size, 0, none⟩) [x] := (OwnInts.lit w 0 (Nat.zero_le _) [x] (by simp)).reads.elim fun _ ⟨_, h, k⟩ => by injection h with h; subst h; exact k

/-- append onto a slice of ints of the call's own; W: the world in which the call began. -/
theorem appI {ops : Array Oper} {rest : List Oper} {o : Oper} {a : Act} {Q : Exit → Act → World → Prop} {w : World} (hgd : o.guard = none) (s x : Operand) (t : TypeId)
    (ho : o.op = .call { callee := .builtin .append, args := #[s, x], argTypes := #[t, t] }) (ht : Try.prog.underlying t = some (.slice 3))
    (W : World) (v : Value) (l : List Int) (hs : a.eval s = v) (hown : OwnInts w W.heap.size v l) (A : Option Addr) (m c : Nat) (news : List Int) (hx : a.eval x = .slice A m c) (hm : m = news.length)
    (hr : Ints w A news) (hl : l.length + news.length ≤ 1000000) (hE : Ext W w)
    (h : ∀ v' w', OwnInts w' W.heap.size v' (l ++ news) → Ext W w' → w.grownBy w' v.ownBlock → (v'.ownBlock = v.ownBlock ∨ v'.ownBlock = some w.heap.size) → wpList Try.prog ops Q rest (a.put o.dst v') w') :
    wpList Try.prog ops Q (o :: rest) a w := by
  subst hm
  obtain ⟨i0, hi0, hz0, hz1, hz2⟩ := info_parts int_info
  refine wpList_append_any w hgd s x t ho W.heap.size 3 i0 _ 1 8 ht hi0 hz0 hz1 hz2 rfl (by omega) v l.length _ hs hown A news.length c _ hx hr (ints_oneCell _ _) (by unfold maxLen; omega) (by omega) hE.size ?_
  intro v' w' h1 h2 h3
  refine h v' w' ?_ (hE.grown h2 fun k hk => (World.ownsRow.lt hown k hk).1) h2 h3
  unfold OwnInts
  rw [List.length_append, List.map_append]
  exact h1
/-- The same as one step of a region that draws its order. -/
theorem stepI {ops : Array Oper} {o : Oper} {a : Act} {K : Act → World → Prop} {Q : Exit → Act → World → Prop} {E : Prop} {w : World} (hgd : o.guard = none) (s x : Operand) (t : TypeId)
    (ho : o.op = .call { callee := .builtin .append, args := #[s, x], argTypes := #[t, t] }) (ht : Try.prog.underlying t = some (.slice 3))
    (W : World) (v : Value) (l : List Int) (hs : a.eval s = v) (hown : OwnInts w W.heap.size v l) (A : Option Addr) (m c : Nat) (news : List Int) (hx : a.eval x = .slice A m c) (hm : m = news.length)
    (hr : Ints w A news) (hl : l.length + news.length ≤ 1000000) (hE : Ext W w)
    (h : ∀ v' w', OwnInts w' W.heap.size v' (l ++ news) → Ext W w' → w.grownBy w' v.ownBlock → (v'.ownBlock = v.ownBlock ∨ v'.ownBlock = some w.heap.size) → K (a.put o.dst v') w') :
    if Region.wanted o (yielded ops a.tmps) = true then Oper.wp Try.prog o a w K Q else E := by
  subst hm
  obtain ⟨i0, hi0, hz0, hz1, hz2⟩ := info_parts int_info
  refine step_append_any w hgd s x t ho W.heap.size 3 i0 _ 1 8 ht hi0 hz0 hz1 hz2 rfl (by omega) v l.length _ hs hown A news.length c _ hx hr (ints_oneCell _ _) (by unfold maxLen; omega) (by omega) hE.size ?_
  intro v' w' h1 h2 h3
  refine h v' w' ?_ (hE.grown h2 fun k hk => (World.ownsRow.lt hown k hk).1) h2 h3
  unfold OwnInts
  rw [List.length_append, List.map_append]
  exact h1
theorem OwnInts.drew {w : World} {base : Nat} {v : Value} {l : List Int} (h : OwnInts w base v l) : OwnInts w.drew base v l := h
theorem OwnInts.alloc {w : World} {base : Nat} {v : Value} {l : List Int} (h : OwnInts w base v l) (o : Obj) : OwnInts (w.alloc o) base v l := World.ownsRow.alloc h o
theorem OwnInts.drewN {w : World} {base : Nat} {v : Value} {l : List Int} (h : OwnInts w base v l) (k : Nat) : OwnInts (w.drewN k) base v l := h

theorem OwnInts.place {w : World} {base : Nat} {v : Value} {l : List Int} (h : OwnInts w base v l) (h0 : 0 < l.length) :
    ∃ g cap, v = .slice (some ⟨g, 0, none⟩) l.length cap ∧ base ≤ g ∧ g < w.heap.size ∧
      (∀ (k : Nat) (x : Int), l[k]? = some x → w.cell? ⟨g, k, none⟩ = some (.int .i64 x)) ∧ (∀ k, w.frozen? ⟨g, k, none⟩ = false) ∧
      (∀ (k : Nat) (y : Int), OwnInts (w.setCell ⟨g, k, none⟩ (.int .i64 y)) base v (l.set k y) ∧ w.grownBy (w.setCell ⟨g, k, none⟩ (.int .i64 y)) (some g)) := by
  have h' := h
  unfold OwnInts at h'
  obtain ⟨g, cap, hv, hb, hlt⟩ := h'.form h0
  subst hv
  refine ⟨g, cap, rfl, hb, hlt, fun k x hx => ?_, fun k => h'.frozenAt k, fun k y => ?_⟩
  · have hk := (List.getElem?_eq_some_iff.1 hx).1
    rw [h'.cellAt k (by omega), List.getElem?_map, hx]; rfl
  · have := h'.stored k (.int .i64 y)
    refine ⟨?_, this.2⟩
    unfold OwnInts
    rw [List.length_set, List.map_set]
    exact this.1
theorem Ext.setCell {W w : World} (h : Ext W w) {p : Addr} (hp : W.heap.size ≤ p.block) (u : Value) : Ext W (w.setCell p u) := Below.setCell h hp u

/-- make of a slice of ints. -/
theorem mkI {ops : Array Oper} {rest : List Oper} {o : Oper} {a : Act} {Q : Exit → Act → World → Prop} {w : World} (hgd : o.guard = none) (l c : Operand) (t : TypeId) (hop : o.op = Op.makeSlice t l c)
    (ht : Try.prog.underlying t = some (.slice 3)) (W : World) (hE : Ext W w) (n : Nat) (L : Int) (hl : a.eval l = .int .i64 L) (hc : a.eval c = .int .i64 L) (hL : L = (n : Int)) (hn : n ≤ 1000000)
    (h : ∀ w', OwnInts w' W.heap.size (.slice (some ⟨w.heap.size, 0, none⟩) n n) (List.replicate n 0) → Ext W w' → wpList Try.prog ops Q rest (a.put o.dst (.slice (some ⟨w.heap.size, 0, none⟩) n n)) w') :
    wpList Try.prog ops Q (o :: rest) a w := by
  obtain ⟨i0, hi0, hz0, hz1, hz2⟩ := info_parts int_info
  refine wpList_make_full w hgd l c t hop W.heap.size 3 i0 _ 1 ht hi0 hz0 hz1 .i64 .i64 L L n hl hc hL hL (by rw [hz2]; omega) (by unfold maxLen; omega) hE.size ?_
  intro w' h1 h2
  refine h w' ?_ (hE.grown h2 (fun k hk => by cases hk))
  have hz : (Value.int IntKind.i64 0).cells = #[.int .i64 0] := rfl
  rw [hz, Nat.mul_one, toList_madeCells_one] at h1
  unfold OwnInts
  rw [List.length_replicate, List.map_replicate]
  exact h1

/-- A clock and an error's number are returned; nothing that was there has turned. -/
def RetClock (w : World) (s : List Int × Int) (e : Ending) (w' : World) : Prop :=
  ∃ A c, e = .returned (.tuple #[.slice A s.1.length c, .int .i64 s.2]) ∧ Ints w' A s.1 ∧ Ext w w'

def RetOwn (w : World) (l : List Int) (e : Ending) (w' : World) : Prop := ∃ v, e = .returned v ∧ OwnInts w' w.heap.size v l ∧ Ext w w'

set_option maxHeartbeats 400000 in
theorem sClone_c (A : Option Addr) (c : Nat) (xs : List Int) (w : World) (hn : xs.length ≤ 1000000) (ha : Ints w A xs) (h0 : 0 < xs.length) :
    Calls Try.prog 32 #[.slice A xs.length c] w (RetOwn w xs) := by
  obtain ⟨a, _, rfl, -, -, -, -⟩ := ha.at_ h0
  go_enter Try.func32, Try.ntmps32
  have hnil := fun (W : World) => Go.Lib.run_eql_slice_nil (P := Try.prog) W 26 3 (some a) xs.length c 0 0 Try.underlying26
  have H0 : OwnInts (w.alloc (.cells #[] 3)) w.heap.size (.slice (some ⟨w.heap.size, 0, none⟩) 0 0) [] := OwnInts.lit w _ (Nat.le_refl _) [] (by simp)
  go_wp2_with (at_builtin; go_loud (refine appI rfl (.tmp 5) (.tmp 6) _ rfl Try.underlying26 w (.slice (some ⟨w.heap.size, 0, none⟩) 0 0) [] rfl H0 (some a) xs.length c xs rfl rfl (ha.ext ((Ext.refl w).alloc _)) (by simpa using hn) ((Ext.refl w).alloc _) ?_); intro v1 w1 hown1 hE1 hg1 hat1)
  go_ret
  exact ⟨_, rfl, hown1, hE1⟩

set_option maxHeartbeats 400000 in
theorem vTick_c (A : Option Addr) (c : Nat) (xs : List Int) (r : Int) (w : World) (hn : xs.length ≤ 1000000) (ha : Ints w A xs) :
    Calls Try.prog 20 #[.slice A xs.length c, .int .i64 r] w (RetClock w (tickS xs r)) := by
  cases hv : validL xs
  · have HT : Hid (tickS xs r = ([], 1)) := by show _ = _; simp [tickS, hv]
    go_enter Try.func20, Try.ntmps20
    go_wp2_with (go_at_call 11; refine (vValid_c A c xs _ hn ha).mono ?_; rintro e w' ⟨rfl, q, rfl⟩)
    go_ret2
    exact ⟨none, 0, by rw [HT.out]; rfl, by rw [HT.out]; exact Ints.nil _ _, Ext.of_drewN _ _⟩
  · by_cases h0 : 0 ≤ r ∧ r < xs.length
    · obtain ⟨hr0, hr1⟩ := h0
      obtain ⟨k, rfl⟩ := Int.eq_ofNat_of_zero_le hr0
      have hk : k < xs.length := by omega
      obtain ⟨a, x, rfl, -, e1, h1, -⟩ := ha.at_ hk
      have hx := validL_at hv e1
      have E1 := hide e1
      clear e1
      by_cases hm : x = 1099511627776
      · have hb : (x == 1099511627776) = true := by simp [hm]
        have HT : Hid (tickS xs k = ([], 6)) := by show _ = _; simp [tickS, hv, E1.out, hm]
        clear hm
        go_enter Try.func20, Try.ntmps20
        go_wp2_with (go_at_call 11; refine (vValid_c _ c xs _ hn ha).mono ?_; rintro e w' ⟨rfl, q, rfl⟩)
        go_ret2
        exact ⟨none, 0, by rw [HT.out]; rfl, by rw [HT.out]; exact Ints.nil _ _, Ext.of_drewN _ _⟩
      · have hb : (x == 1099511627776) = false := by simp [hm]
        have HT : Hid (tickS xs k = (xs.set k (x + 1), 0)) := by show _ = _; simp [tickS, hv, E1.out, hm]
        clear hm
        go_enter Try.func20, Try.ntmps20
        go_wp2_with fail
        refine (vValid_c _ c xs _ hn ha).mono ?_
        rintro e w' ⟨rfl, q, rfl⟩
        go_wp2_with fail
        refine (sClone_c _ c xs _ hn (ha.drewN _) (by omega)).mono ?_
        rintro e w1 ⟨v, rfl, hown, hE⟩
        obtain ⟨g, cap, rfl, hg, -, hcell, hfr, hset⟩ := hown.place (by omega)
        have h2 := hcell k x E1.out
        have h3 := hfr k
        obtain ⟨S1, -⟩ := hset k (x + 1)
        have HO := hide S1
        have HE := hide (Ext.setCell (p := ⟨g, k, none⟩) hE hg (.int .i64 (x + 1)))
        clear hcell hfr hset S1 hown hE
        go_wp2
        go_ret2
        exact ⟨some ⟨g, 0, none⟩, cap, by rw [HT.out]; simp, by rw [HT.out]; exact HO.out.ints, (Ext.of_drewN _ _).trans HE.out⟩
    · have HT : Hid (tickS xs r = ([], 12)) := by
        show _ = _
        unfold tickS
        rw [if_pos hv]
        split
        · rw [List.getElem?_eq_none (by omega)]
        · rfl
      by_cases hr0 : 0 ≤ r
      · have hr1 : (xs.length : Int) ≤ r := by omega
        clear h0
        go_enter Try.func20, Try.ntmps20
        go_wp2_with (go_at_call 11; refine (vValid_c A c xs _ hn ha).mono ?_; rintro e w' ⟨rfl, q, rfl⟩)
        go_ret2
        exact ⟨none, 0, by rw [HT.out]; rfl, by rw [HT.out]; exact Ints.nil _ _, Ext.of_drewN _ _⟩
      · clear h0
        go_enter Try.func20, Try.ntmps20
        go_wp2_with (go_at_call 11; refine (vValid_c A c xs _ hn ha).mono ?_; rintro e w' ⟨rfl, q, rfl⟩)
        go_ret2
        exact ⟨none, 0, by rw [HT.out]; rfl, by rw [HT.out]; exact Ints.nil _ _, Ext.of_drewN _ _⟩

set_option maxHeartbeats 400000 in
theorem rTick_c (A : Option Addr) (c : Nat) (xs : List Int) (r : Int) (w : World) (hn : xs.length ≤ 1000000) (ha : Ints w A xs) :
    Calls Try.prog 21 #[.slice A xs.length c, .int .i64 r] w (RetClock w (tickS xs r)) := by
  cases hv : validL xs
  · have HT : Hid (tickS xs r = ([], 1)) := by show _ = _; simp [tickS, hv]
    go_enter Try.func21, Try.ntmps21
    go_wp2_with (go_at_call 12; refine (rValid_c A c xs _ hn ha).mono ?_; rintro e w' ⟨rfl, q, rfl⟩)
    go_ret2
    exact ⟨none, 0, by rw [HT.out]; rfl, by rw [HT.out]; exact Ints.nil _ _, Ext.of_drewN _ _⟩
  · by_cases h0 : 0 ≤ r ∧ r < xs.length
    · obtain ⟨hr0, hr1⟩ := h0
      obtain ⟨k, rfl⟩ := Int.eq_ofNat_of_zero_le hr0
      have hk : k < xs.length := by omega
      obtain ⟨a, x, rfl, -, e1, h1, -⟩ := ha.at_ hk
      have hx := validL_at hv e1
      have E1 := hide e1
      clear e1
      by_cases hm : x = 1099511627776
      · have hb : (x == 1099511627776) = true := by simp [hm]
        have HT : Hid (tickS xs k = ([], 6)) := by show _ = _; simp [tickS, hv, E1.out, hm]
        clear hm
        go_enter Try.func21, Try.ntmps21
        go_wp2_with (go_at_call 12; refine (rValid_c _ c xs _ hn ha).mono ?_; rintro e w' ⟨rfl, q, rfl⟩)
        go_ret2
        exact ⟨none, 0, by rw [HT.out]; rfl, by rw [HT.out]; exact Ints.nil _ _, Ext.of_drewN _ _⟩
      · have hb : (x == 1099511627776) = false := by simp [hm]
        have HT : Hid (tickS xs k = (xs.set k (x + 1), 0)) := by show _ = _; simp [tickS, hv, E1.out, hm]
        clear hm
        go_enter Try.func21, Try.ntmps21
        go_wp2_with fail
        refine (rValid_c _ c xs _ hn ha).mono ?_
        rintro e w' ⟨rfl, q, rfl⟩
        have H0 : OwnInts ((w.drewN q).alloc (.cells #[] 3)) w.heap.size (.slice (some ⟨w.heap.size, 0, none⟩) 0 0) [] := OwnInts.lit (w.drewN q) w.heap.size (Nat.le_refl _) [] (by simp)
        have HE0 : Ext w ((w.drewN q).alloc (.cells #[] 3)) := (Ext.of_drewN w q).alloc _
        go_wp2_with (at_builtin; go_loud (refine appI rfl (.tmp 26) (.tmp 27) _ rfl Try.underlying23 w (.slice (some ⟨w.heap.size, 0, none⟩) 0 0) [] rfl H0 (some a) xs.length c xs rfl rfl (ha.ext HE0) (by simpa using hn) HE0 ?_); intro v1 w1 hown hE _ _; rw [List.nil_append] at hown; obtain ⟨g, cap, rfl, hg, -, hcell, hfr, hset⟩ := hown.place (by omega); have h2 := hcell k x E1.out; have h3 := hfr k; obtain ⟨S1, -⟩ := hset k (x + 1); have HO := hide S1; have HE := hide (Ext.setCell (p := ⟨g, k, none⟩) hE hg (.int .i64 (x + 1))); clear hcell hfr hset S1 hown hE)
        go_ret2
        exact ⟨some ⟨g, 0, none⟩, cap, by rw [HT.out]; simp, by rw [HT.out]; exact HO.out.ints, HE.out⟩
    · have HT : Hid (tickS xs r = ([], 12)) := by
        show _ = _
        unfold tickS
        rw [if_pos hv]
        split
        · rw [List.getElem?_eq_none (by omega)]
        · rfl
      by_cases hr0 : 0 ≤ r
      · have hr1 : (xs.length : Int) ≤ r := by omega
        clear h0
        go_enter Try.func21, Try.ntmps21
        go_wp2_with (go_at_call 12; refine (rValid_c A c xs _ hn ha).mono ?_; rintro e w' ⟨rfl, q, rfl⟩)
        go_ret2
        exact ⟨none, 0, by rw [HT.out]; rfl, by rw [HT.out]; exact Ints.nil _ _, Ext.of_drewN _ _⟩
      · clear h0
        go_enter Try.func21, Try.ntmps21
        go_wp2_with (go_at_call 12; refine (rValid_c A c xs _ hn ha).mono ?_; rintro e w' ⟨rfl, q, rfl⟩)
        go_ret2
        exact ⟨none, 0, by rw [HT.out]; rfl, by rw [HT.out]; exact Ints.nil _ _, Ext.of_drewN _ _⟩

set_option maxHeartbeats 400000 in
theorem vJoin_c (A B : Option Addr) (c d : Nat) (xs ys : List Int) (w : World) (hn : xs.length ≤ 1000000) (hm : ys.length ≤ 1000000) (ha : Ints w A xs) (hb : Ints w B ys) :
    Calls Try.prog 19 #[.slice A xs.length c, .slice B ys.length d] w (RetClock w (joinS xs ys)) := by
  by_cases hall : validL xs = true ∧ validL ys = true ∧ xs.length = ys.length
  · obtain ⟨hv1, hv2, hl⟩ := hall
    have HT : Hid (joinS xs ys = (maxAll xs ys, 0)) := by show _ = _; simp [joinS, hv1, hv2, hl]
    have hne : ((xs.length : Int) != ys.length) = false := by simp [hl]
    have hle : xs.length ≤ ys.length := by omega
    have hML := maxAll_length hl
    obtain ⟨zs, hzs⟩ : ∃ zs, zs = maxAll xs ys := ⟨_, rfl⟩
    have HZ : Hid (zs = maxAll xs ys) := hzs
    rw [← hzs] at HT hML
    have HML := Lib.hid hML
    clear hl hzs hML
    go_enter Try.func19, Try.ntmps19
    go_wp2_with fail
    refine (vValid_c A c xs _ hn ha).mono ?_
    rintro e w' ⟨rfl, q, rfl⟩
    go_wp2_with fail
    refine (vValid_c B d ys _ hm (hb.drewN _)).mono ?_
    rintro e w' ⟨rfl, q2, rfl⟩
    go_wp2_with (at_make; go_loud (refine mkI rfl _ _ _ rfl Try.underlying26 w (Ext.of_drewN _ _) xs.length _ rfl rfl rfl hn ?_); intro w1 hown hE)
    obtain ⟨g, hg⟩ : ∃ g, g = w.heap.size := ⟨_, rfl⟩
    have HG := Lib.hid hg
    clear hg
    go_loopw [28] (fun i wr => ∃ k : Nat, k ≤ xs.length ∧ i = .int .i64 k ∧ OwnInts wr w.heap.size (.slice (some ⟨w.heap.size, 0, none⟩) xs.length xs.length) (filled zs k) ∧ Ext w wr) (fun i _ => xs.length - (intOf i).toNat)
    case atStart => exact ⟨0, Nat.zero_le _, rfl, by rw [filled_zero, HML.out]; exact hown, hE⟩
    case round =>
      clear hown hE
      obtain ⟨k, hk, rfl, hown, hE⟩ := hrel
      by_cases hlt : k < xs.length
      · obtain ⟨a, x, rfl, -, e1, h1, -⟩ := (ha.ext hE).at_ hlt
        obtain ⟨b, y, rfl, -, e2, h2, -⟩ := (hb.ext hE).at_ (k := k) (by omega)
        have hlt2 : k < ys.length := by omega
        have hz := maxAll_at e1 e2
        rw [← HZ.out] at hz
        have hown' : wr.ownsRow w.heap.size 3 1 (.slice (some ⟨w.heap.size, 0, none⟩) xs.length xs.length) xs.length ((filled zs k).map (Value.int .i64)) := by
          have h := hown
          unfold OwnInts at h
          rw [filled_length _ (by rw [HML.out]; exact hk), HML.out] at h
          exact h
        have h3 := hown'.cellAt k (by omega)
        rw [List.getElem?_map, filled_at _ (by rw [HML.out]; exact hlt)] at h3
        have h3' : wr.cell? ⟨w.heap.size, k, none⟩ = some (.int .i64 0) := h3
        have h4 := hown'.frozenAt k
        have HS := hide (hown'.stored k (.int .i64 (max x y))).1
        have HF := hide (filled_step zs hz)
        have HE := hide hE
        clear e1 e2 ha hb hown hown' h3 hz hE
        go_wp2
        go_region
        go_wp2
        go_roundw
        case rel =>
          rw [max_if]
          refine ⟨k + 1, by omega, by go_num, ?_, (HE.out.setCell (p := ⟨w.heap.size, k, none⟩) (Nat.le_refl _) _).drew⟩
          have h := HS.out
          rw [← List.map_set, HF.out] at h
          unfold OwnInts
          rw [filled_length _ (by rw [HML.out]; omega), HML.out]
          exact h
        case measure => simp [intOf]; omega
      · have hkk : xs.length ≤ k := by omega
        have HO : Hid (OwnInts wr w.heap.size (.slice (some ⟨w.heap.size, 0, none⟩) xs.length xs.length) zs) := by
          have h := hown
          rw [filled_all _ (by rw [HML.out]; exact hkk)] at h
          exact h
        clear hown
        go_wp2
        go_ret2
        exact ⟨some ⟨w.heap.size, 0, none⟩, xs.length, by rw [HT.out, HML.out]; rfl, by rw [HT.out]; exact HO.out.ints, hE⟩
  · have HT : Hid (joinS xs ys = ([], 1)) := by show _ = _; simp only [joinS, if_neg hall]
    cases hv1 : validL xs
    · go_enter Try.func19, Try.ntmps19
      go_wp2_with (go_at_call 11; refine (vValid_c A c xs _ hn ha).mono ?_; rintro e w' ⟨rfl, q, rfl⟩)
      go_ret2
      exact ⟨none, 0, by rw [HT.out]; rfl, by rw [HT.out]; exact Ints.nil _ _, Ext.of_drewN _ _⟩
    · cases hv2 : validL ys
      · go_enter Try.func19, Try.ntmps19
        go_wp2_with fail
        refine (vValid_c A c xs _ hn ha).mono ?_
        rintro e w' ⟨rfl, q, rfl⟩
        go_wp2_with fail
        refine (vValid_c B d ys _ hm (hb.drewN _)).mono ?_
        rintro e w' ⟨rfl, q2, rfl⟩
        go_wp2
        go_ret2
        exact ⟨none, 0, by rw [HT.out]; rfl, by rw [HT.out]; exact Ints.nil _ _, Quiet.ext (by first | exact Quiet.refl _ | exact Quiet.d1 _ _ | exact Quiet.d2 _ _ _ | exact Quiet.d3 _ _ _ _ | exact Quiet.d4 _ _ _ _ _ | assumption)⟩
      · have hne : ((xs.length : Int) != ys.length) = true := by
          rw [bne_iff_ne]
          intro h
          exact hall ⟨hv1, hv2, by omega⟩
        clear hall
        go_enter Try.func19, Try.ntmps19
        go_wp2_with fail
        refine (vValid_c A c xs _ hn ha).mono ?_
        rintro e w' ⟨rfl, q, rfl⟩
        go_wp2_with fail
        refine (vValid_c B d ys _ hm (hb.drewN _)).mono ?_
        rintro e w' ⟨rfl, q2, rfl⟩
        go_wp2
        go_ret2
        exact ⟨none, 0, by rw [HT.out]; rfl, by rw [HT.out]; exact Ints.nil _ _, Quiet.ext (by first | exact Quiet.refl _ | exact Quiet.d1 _ _ | exact Quiet.d2 _ _ _ | exact Quiet.d3 _ _ _ _ | exact Quiet.d4 _ _ _ _ _ | assumption)⟩

set_option maxHeartbeats 400000 in
theorem rJoin_c (A B : Option Addr) (c d : Nat) (xs ys : List Int) (w : World) (hn : xs.length ≤ 1000000) (hm : ys.length ≤ 1000000) (ha : Ints w A xs) (hb : Ints w B ys) :
    Calls Try.prog 24 #[.slice A xs.length c, .slice B ys.length d] w (RetClock w (joinS xs ys)) := by
  by_cases hall : validL xs = true ∧ validL ys = true ∧ xs.length = ys.length
  · obtain ⟨hv1, hv2, hl⟩ := hall
    have HT : Hid (joinS xs ys = (maxAll xs ys, 0)) := by show _ = _; simp [joinS, hv1, hv2, hl]
    have hne : ((xs.length : Int) != ys.length) = false := by simp [hl]
    have hle : xs.length ≤ ys.length := by omega
    have hML := maxAll_length hl
    obtain ⟨zs, hzs⟩ : ∃ zs, zs = maxAll xs ys := ⟨_, rfl⟩
    have HZ : Hid (zs = maxAll xs ys) := hzs
    rw [← hzs] at HT hML
    have HML := Lib.hid hML
    clear hl hzs hML
    go_enter Try.func24, Try.ntmps24
    go_wp2_with fail
    refine (rValid_c A c xs _ hn ha).mono ?_
    rintro e w' ⟨rfl, q, rfl⟩
    go_wp2_with fail
    refine (rValid_c B d ys _ hm (hb.drewN _)).mono ?_
    rintro e w' ⟨rfl, q2, rfl⟩
    go_wp2
    go_loopw [6, 7] (fun v i wr => ∃ k : Nat, k ≤ xs.length ∧ i = .int .i64 k ∧ OwnInts wr w.heap.size v (zs.take k) ∧ Ext w wr) (fun _ i _ => xs.length - (intOf i).toNat)
    case atStart => exact ⟨0, Nat.zero_le _, rfl, OwnInts.nil _ _, Ext.of_drewN _ _⟩
    case round =>
      obtain ⟨k, hk, rfl, hown, hE⟩ := hrel
      by_cases hlt : k < xs.length
      · obtain ⟨a, x, rfl, -, e1, h1, -⟩ := (ha.ext hE).at_ hlt
        obtain ⟨b, y, rfl, -, e2, h2, -⟩ := (hb.ext hE).at_ (k := k) (by omega)
        have hlt2 : k < ys.length := by omega
        have hz := maxAll_at e1 e2
        rw [← HZ.out] at hz
        have HT1 : Hid (zs.take k ++ [max x y] = zs.take (k + 1)) := by
          show _ = _
          rw [List.take_add_one, hz]; rfl
        have hkl : (zs.take k).length = k := by rw [List.length_take, HML.out]; omega
        have HKL := hide hkl
        clear e1 e2 ha hb hz hkl
        go_wp2
        go_region_law (refine stepI rfl (.tmp 29) (.tmp 39) _ rfl Try.underlying23 w u6 (zs.take k) (by simp [Act.eval]) (by first | exact hown.alloc _ | exact (hown.alloc _).drew) _ 1 1 [max x y] (by simp [Act.eval]; rfl) rfl (by rw [← max_if]; exact Ints.one _ _) (by rw [HKL.out]; simp; omega) (by first | exact hE.alloc _ | exact (hE.alloc _).drew) ?_; intro v1 w1 hown1 hE1 _ _)
        all_goals
          have HO := hide hown1
          clear hown1
          go_wp2
          go_roundw
          case rel => exact ⟨k + 1, by omega, by go_num, by rw [← HT1.out]; exact HO.out, hE1⟩
          case measure => simp [intOf]; omega
      · have hkk : xs.length ≤ k := by omega
        have HO : Hid (OwnInts wr w.heap.size u6 zs) := by
          have h := hown
          rw [List.take_of_length_le (by rw [HML.out]; exact hkk)] at h
          exact h
        clear hown
        obtain ⟨A1, c1, rfl, hi1⟩ := HO.out.reads
        go_wp2
        go_ret2
        exact ⟨A1, c1, by rw [HT.out]; rfl, by rw [HT.out]; exact hi1, hE⟩
  · have HT : Hid (joinS xs ys = ([], 1)) := by show _ = _; simp only [joinS, if_neg hall]
    cases hv1 : validL xs
    · go_enter Try.func24, Try.ntmps24
      go_wp2_with (go_at_call 12; refine (rValid_c A c xs _ hn ha).mono ?_; rintro e w' ⟨rfl, q, rfl⟩)
      go_ret2
      exact ⟨none, 0, by rw [HT.out]; rfl, by rw [HT.out]; exact Ints.nil _ _, Ext.of_drewN _ _⟩
    · cases hv2 : validL ys
      · go_enter Try.func24, Try.ntmps24
        go_wp2_with fail
        refine (rValid_c A c xs _ hn ha).mono ?_
        rintro e w' ⟨rfl, q, rfl⟩
        go_wp2_with fail
        refine (rValid_c B d ys _ hm (hb.drewN _)).mono ?_
        rintro e w' ⟨rfl, q2, rfl⟩
        go_wp2
        go_ret2
        exact ⟨none, 0, by rw [HT.out]; rfl, by rw [HT.out]; exact Ints.nil _ _, Quiet.ext (by first | exact Quiet.refl _ | exact Quiet.d1 _ _ | exact Quiet.d2 _ _ _ | exact Quiet.d3 _ _ _ _ | exact Quiet.d4 _ _ _ _ _ | assumption)⟩
      · have hne : ((xs.length : Int) != ys.length) = true := by
          rw [bne_iff_ne]
          intro h
          exact hall ⟨hv1, hv2, by omega⟩
        clear hall
        go_enter Try.func24, Try.ntmps24
        go_wp2_with fail
        refine (rValid_c A c xs _ hn ha).mono ?_
        rintro e w' ⟨rfl, q, rfl⟩
        go_wp2_with fail
        refine (rValid_c B d ys _ hm (hb.drewN _)).mono ?_
        rintro e w' ⟨rfl, q2, rfl⟩
        go_wp2
        go_ret2
        exact ⟨none, 0, by rw [HT.out]; rfl, by rw [HT.out]; exact Ints.nil _ _, Quiet.ext (by first | exact Quiet.refl _ | exact Quiet.d1 _ _ | exact Quiet.d2 _ _ _ | exact Quiet.d3 _ _ _ _ | exact Quiet.d4 _ _ _ _ _ | assumption)⟩

set_option maxHeartbeats 400000 in
theorem vZero_c (n : Int) (w : World) : Calls Try.prog 22 #[.int .i64 n] w (RetClock w (zeroS n)) := by
  by_cases h : 1 ≤ n ∧ n ≤ 6
  · obtain ⟨h1, h2⟩ := h
    obtain ⟨k, rfl⟩ := Int.eq_ofNat_of_zero_le (show 0 ≤ n by omega)
    have hk : k ≤ 1000000 := by omega
    have HT : Hid (zeroS k = (List.replicate k 0, 0)) := by show _ = _; simp only [zeroS]; rw [if_pos ⟨h1, h2⟩]; rfl
    go_enter Try.func22, Try.ntmps22
    go_wp2_with (at_make; go_loud (refine mkI rfl _ _ _ rfl Try.underlying26 w (Ext.refl w) k _ rfl rfl rfl hk ?_); intro w1 hown hE)
    go_ret2
    exact ⟨some ⟨w.heap.size, 0, none⟩, k, by rw [HT.out]; simp, by rw [HT.out]; exact hown.ints, hE⟩
  · have HT : Hid (zeroS n = ([], 2)) := by show _ = _; simp only [zeroS, if_neg h]
    by_cases h1 : 1 ≤ n
    · have h2 : 6 < n := by omega
      clear h
      go_enter Try.func22, Try.ntmps22
      go_wp2
      go_ret2
      exact ⟨none, 0, by rw [HT.out]; rfl, by rw [HT.out]; exact Ints.nil _ _, Ext.refl _⟩
    · clear h
      go_enter Try.func22, Try.ntmps22
      go_wp2
      go_ret2
      exact ⟨none, 0, by rw [HT.out]; rfl, by rw [HT.out]; exact Ints.nil _ _, Ext.refl _⟩

set_option maxHeartbeats 400000 in
theorem vReceive_c (A B : Option Addr) (c d : Nat) (xs ys : List Int) (r : Int) (w : World) (hn : xs.length ≤ 1000000) (hm : ys.length ≤ 1000000) (ha : Ints w A xs) (hb : Ints w B ys) :
    Calls Try.prog 25 #[.slice A xs.length c, .slice B ys.length d, .int .i64 r] w (RetClock w (receiveS xs ys r)) := by
  by_cases h0 : (joinS xs ys).2 = 0
  · have HT : Hid (receiveS xs ys r = tickS (joinS xs ys).1 r) := by show _ = _; simp only [receiveS, if_pos h0]
    have HL := hide (joinS_length xs ys)
    have H0 := hide h0
    clear h0
    go_enter Try.func25, Try.ntmps25
    go_wp2_with fail
    refine (vJoin_c A B c d xs ys _ hn hm ha hb).mono ?_
    rintro e w1 ⟨A1, c1, rfl, hi, hE⟩
    have Hi := hide hi
    rw [H0.out]
    clear hi
    go_wp2_with (go_at_call 20; refine (vTick_c A1 c1 _ r _ (Nat.le_trans HL.out hn) Hi.out).mono ?_; rintro e w2 ⟨A2, c2, rfl, hi2, hE2⟩)
    go_ret2
    exact ⟨A2, c2, by rw [HT.out]; rfl, by rw [HT.out]; exact hi2, hE.trans hE2⟩
  · have HT : Hid (receiveS xs ys r = ([], (joinS xs ys).2)) := by show _ = _; simp only [receiveS, if_neg h0]
    have hb0 : ((joinS xs ys).2 != 0) = true := by simp [h0]
    clear h0
    go_enter Try.func25, Try.ntmps25
    go_wp2_with fail
    refine (vJoin_c A B c d xs ys _ hn hm ha hb).mono ?_
    rintro e w1 ⟨A1, c1, rfl, hi, hE⟩
    go_wp2
    go_ret2
    exact ⟨none, 0, by rw [HT.out]; rfl, by rw [HT.out]; exact Ints.nil _ _, hE⟩

set_option maxHeartbeats 400000 in
theorem rZero_c (n : Int) (w : World) : Calls Try.prog 23 #[.int .i64 n] w (RetClock w (zeroS n)) := by
  by_cases h : 1 ≤ n ∧ n ≤ 6
  · obtain ⟨h1, h2⟩ := h
    obtain ⟨k, rfl⟩ := Int.eq_ofNat_of_zero_le (show 0 ≤ n by omega)
    have hk : k ≤ 1000000 := by omega
    have HT : Hid (zeroS k = (List.replicate k 0, 0)) := by show _ = _; simp only [zeroS]; rw [if_pos ⟨h1, h2⟩]; rfl
    go_enter Try.func23, Try.ntmps23
    go_wp2_with (at_make; go_loud (refine mkI rfl _ _ _ rfl Try.underlying23 w (Ext.refl w) k _ rfl rfl rfl hk ?_); intro w1 hown hE)
    go_ret2
    exact ⟨some ⟨w.heap.size, 0, none⟩, k, by rw [HT.out]; simp, by rw [HT.out]; exact hown.ints, hE⟩
  · have HT : Hid (zeroS n = ([], 2)) := by show _ = _; simp only [zeroS, if_neg h]
    by_cases h1 : 1 ≤ n
    · have h2 : 6 < n := by omega
      clear h
      go_enter Try.func23, Try.ntmps23
      go_wp2
      go_ret2
      exact ⟨none, 0, by rw [HT.out]; rfl, by rw [HT.out]; exact Ints.nil _ _, Ext.refl _⟩
    · clear h
      go_enter Try.func23, Try.ntmps23
      go_wp2
      go_ret2
      exact ⟨none, 0, by rw [HT.out]; rfl, by rw [HT.out]; exact Ints.nil _ _, Ext.refl _⟩

set_option maxHeartbeats 400000 in
theorem rReceive_c (A B : Option Addr) (c d : Nat) (xs ys : List Int) (r : Int) (w : World) (hn : xs.length ≤ 1000000) (hm : ys.length ≤ 1000000) (ha : Ints w A xs) (hb : Ints w B ys) :
    Calls Try.prog 26 #[.slice A xs.length c, .slice B ys.length d, .int .i64 r] w (RetClock w (receiveS xs ys r)) := by
  by_cases h0 : (joinS xs ys).2 = 0
  · have HT : Hid (receiveS xs ys r = tickS (joinS xs ys).1 r) := by show _ = _; simp only [receiveS, if_pos h0]
    have HL := hide (joinS_length xs ys)
    have H0 := hide h0
    clear h0
    go_enter Try.func26, Try.ntmps26
    go_wp2_with fail
    refine (rJoin_c A B c d xs ys _ hn hm ha hb).mono ?_
    rintro e w1 ⟨A1, c1, rfl, hi, hE⟩
    have Hi := hide hi
    rw [H0.out]
    clear hi
    go_wp2_with (go_at_call 21; refine (rTick_c A1 c1 _ r _ (Nat.le_trans HL.out hn) Hi.out).mono ?_; rintro e w2 ⟨A2, c2, rfl, hi2, hE2⟩)
    go_ret2
    exact ⟨A2, c2, by rw [HT.out]; rfl, by rw [HT.out]; exact hi2, hE.trans hE2⟩
  · have HT : Hid (receiveS xs ys r = ([], (joinS xs ys).2)) := by show _ = _; simp only [receiveS, if_neg h0]
    have hb0 : ((joinS xs ys).2 != 0) = true := by simp [h0]
    clear h0
    go_enter Try.func26, Try.ntmps26
    go_wp2_with fail
    refine (rJoin_c A B c d xs ys _ hn hm ha hb).mono ?_
    rintro e w1 ⟨A1, c1, rfl, hi, hE⟩
    go_wp2
    go_ret2
    exact ⟨none, 0, by rw [HT.out]; rfl, by rw [HT.out]; exact Ints.nil _ _, hE⟩

end Go.Proofs.Ytomejdempmbbmaa
