/- Packets that are damaged; links: what a tick and a packet leave valid. -/
import Derived.Test.YtcfnmklbkhibgaaS5
import Derived.Test.YtcfnmklbkhibgaaL7
namespace Go.Proofs.Ytcfnmklbkhibgaa
open Go.RowKit

set_option maxRecDepth 100000 in
theorem mulP_inj {x y : Nat} (hx : x < 18446744073709551616) (hy : y < 18446744073709551616) (h : x * 1099511628211 % 18446744073709551616 = y * 1099511628211 % 18446744073709551616) : x = y := by
  have inv : ∀ z : Nat, z < 18446744073709551616 → z * 1099511628211 % 18446744073709551616 * 14886173955864302971 % 18446744073709551616 = z := fun z hz => by
    rw [Nat.mod_mul_mod, Nat.mul_assoc, show 1099511628211 * 14886173955864302971 = 1 + 18446744073709551616 * 887285111055 from by decide, Nat.mul_add, Nat.mul_one, Nat.mul_left_comm, Nat.add_mul_mod_self_left, Nat.mod_eq_of_lt hz]
  have h1 := inv x hx
  rw [h, inv y hy] at h1
  exact h1.symm
set_option maxRecDepth 100000 in
theorem xor_lt64 {x : Nat} (hx : x < 18446744073709551616) (c : UInt8) : x ^^^ c.toNat < 18446744073709551616 := by
  have hc := c.toNat_lt
  exact Nat.xor_lt_two_pow (n := 64) hx (by omega)
set_option maxRecDepth 100000 in
theorem xor_cancel_r {x y c : Nat} (h : x ^^^ c = y ^^^ c) : x = y := by
  have := congrArg (· ^^^ c) h
  simpa [Nat.xor_assoc] using this
set_option maxRecDepth 100000 in
theorem fnv_inj : ∀ (b : List UInt8) {x y : Nat}, x < 18446744073709551616 → y < 18446744073709551616 → fnv x b = fnv y b → x = y
  | [], _, _, _, _, h => h
  | c :: b, x, y, hx, hy, h => xor_cancel_r (mulP_inj (xor_lt64 hx c) (xor_lt64 hy c) (fnv_inj b (Nat.mod_lt _ (by decide)) (Nat.mod_lt _ (by decide)) h))
set_option maxRecDepth 100000 in
theorem fnv_byte {s : Nat} (hs : s < 18446744073709551616) {c d : UInt8} (b : List UInt8) (h : fnv s (c :: b) = fnv s (d :: b)) : c = d := by
  have h1 := mulP_inj (xor_lt64 hs c) (xor_lt64 hs d) (fnv_inj b (Nat.mod_lt _ (by decide)) (Nat.mod_lt _ (by decide)) h)
  rw [Nat.xor_comm s c.toNat, Nat.xor_comm s d.toNat] at h1
  exact UInt8.toNat.inj (xor_cancel_r h1)
set_option maxRecDepth 100000 in
theorem by8_inj {x y : Nat} (hx : x < 18446744073709551616) (hy : y < 18446744073709551616) (h : by8 x = by8 y) : x = y := by
  have t : ∀ (a b : Nat), UInt8.ofNat a = UInt8.ofNat b → a % 256 = b % 256 := fun a b h => by
    have := congrArg UInt8.toNat h
    simpa using this
  unfold by8 at h
  simp only [List.cons.injEq, and_true] at h
  obtain ⟨h7, h6, h5, h4, h3, h2, h1, h0⟩ := h
  have h7 := t _ _ h7
  have h6 := t _ _ h6
  have h5 := t _ _ h5
  have h4 := t _ _ h4
  have h3 := t _ _ h3
  have h2 := t _ _ h2
  have h1 := t _ _ h1
  have h0 := t _ _ h0
  simp only [Nat.reducePow] at h0 h1 h2 h3 h4 h5 h6 h7
  omega
set_option maxRecDepth 100000 in
theorem hash_set {b : List UInt8} {k : Nat} {x : UInt8} (hk : k < b.length) (h : hash (b.set k x) = hash b) : b[k] = x := by
  have e : b = b.take k ++ b[k] :: b.drop (k + 1) := by rw [List.getElem_cons_drop, List.take_append_drop]
  have e2 : b.set k x = b.take k ++ x :: b.drop (k + 1) := by rw [List.set_eq_take_append_cons_drop, if_pos hk]
  unfold hash at h
  rw [e2, fnv_append] at h
  have h2 : fnv 14695981039346656037 b = fnv (fnv 14695981039346656037 (b.take k)) (b[k] :: b.drop (k + 1)) := by
    rw [← fnv_append, ← e]
  rw [h2] at h
  exact (fnv_byte (fnv_lt (by decide) _) _ h).symm
set_option maxRecDepth 100000 in
theorem damaged {b : List UInt8} {k : Nat} {x : UInt8} (hk : k < (sealed b).length) (hx : (sealed b)[k] ≠ x) : opened ((sealed b).set k x) = (5, []) := by
  have h8 : (by8 (hash b)).length = 8 := rfl
  have hl : (sealed b).length = b.length + 8 := by unfold sealed; rw [List.length_append, h8]
  have hls : ((sealed b).set k x).length = b.length + 8 := by rw [List.length_set, hl]
  have en : ((sealed b).set k x).length - 8 = b.length := by omega
  refine opened_bad (by omega) ?_
  rw [en]
  rcases Nat.lt_or_ge k b.length with h | h
  · have e1 : (sealed b).set k x = b.set k x ++ by8 (hash b) := by unfold sealed; rw [List.set_append_left _ _ h]
    have hg : (sealed b)[k] = b[k] := by unfold sealed; exact List.getElem_append_left h
    rw [e1, List.take_left' (List.length_set), List.drop_left' (List.length_set)]
    intro hh
    have := hash_set h (by8_inj (hash_lt _) (hash_lt _) hh)
    exact hx (hg.trans this)
  · have e1 : (sealed b).set k x = b ++ (by8 (hash b)).set (k - b.length) x := by unfold sealed; rw [List.set_append_right _ _ h]
    have hk2 : k - b.length < (by8 (hash b)).length := by omega
    have hg : (sealed b)[k] = (by8 (hash b))[k - b.length] := by unfold sealed; exact List.getElem_append_right h
    rw [e1, List.take_left, List.drop_left]
    intro hh
    have h2 := congrArg (fun l => l[k - b.length]?) hh
    simp only [List.getElem?_set_self hk2, List.getElem?_eq_getElem hk2, Option.some.injEq] at h2
    exact hx (hg.trans h2)
set_option maxRecDepth 100000 in
theorem dec_bad {b : List UInt8} (h : opened b = (5, [])) : decP b = (5, pk0) := by
  unfold decP
  rw [h]
  rfl
structure LkM (M : List Nat) (H : Heap) (l : LH) : Prop where
  pat : RdM eByte M H l.PA l.pat
  fly : RdM eFH M H l.FA l.fly
  data : ∀ x ∈ l.fly, RdM eByte M H x.A x.data
  fcap : l.fly.length ≤ l.fc
set_option maxRecDepth 100000 in
theorem LkM.rd {M : List Nat} {H : Heap} {l : LH} (h : LkM M H l) : LkRd H l := ⟨h.pat.rd, h.fly.rd, fun x hx => (h.data x hx).rd, h.fcap⟩
set_option maxRecDepth 100000 in
theorem LkM.tr {M M' : List Nat} {H H' : Heap} {l : LH} (h : LkM M H l) (t : Tr M H M' H') : LkM M' H' l := ⟨h.pat.tr t, h.fly.tr t, fun x hx => (h.data x hx).tr t, h.fcap⟩
set_option maxRecDepth 100000 in
theorem filter_tw {α : Type} (p : α → Bool) : ∀ (l : List α), (∀ (i j : Nat) (hi : i < l.length) (hj : j < l.length), i ≤ j → p l[j] = true → p l[i] = true) → l.filter p = l.takeWhile p ∧ l.filter (fun x => !p x) = l.dropWhile p
  | [], _ => ⟨rfl, rfl⟩
  | x :: l, h => by
    have ih := filter_tw p l (fun i j hi hj hij hp => by have := h (i + 1) (j + 1) (by simpa using hi) (by simpa using hj) (by omega) (by simpa using hp); simpa using this)
    by_cases hx : p x = true
    · simp [hx, ih.1]
      rw [← ih.2]
    · have hx : p x = false := by simpa using hx
      have hn : ∀ y ∈ l, p y = false := fun y hy => by
        obtain ⟨j, hj, rfl⟩ := List.getElem_of_mem hy
        cases hpj : p l[j] with
        | false => rfl
        | true =>
          have := h 0 (j + 1) (by simp) (by simpa using hj) (by omega) (by simpa using hpj)
          simp [hx] at this
      have e1 : l.filter p = [] := List.filter_eq_nil_iff.2 (fun y hy => by simp [hn y hy])
      have e2 : l.filter (fun x => !p x) = l := List.filter_eq_self.2 (fun y hy => by simp [hn y hy])
      simp [hx, e1, e2]
set_option maxRecDepth 100000 in
theorem GoodF.tw {now : Int} {f : List Fl} (h : GoodF now f) : f.filter (fun x => decide (x.1 = now + 1)) = f.takeWhile (fun x => decide (x.1 = now + 1)) ∧ f.filter (fun x => !decide (x.1 = now + 1)) = f.dropWhile (fun x => decide (x.1 = now + 1)) :=
  filter_tw _ _ fun i j hi hj hij hp => by
    have h1 := (h.rng _ (List.getElem_mem hi)).1
    have h2 : f[i].1 ≤ f[j].1 := by
      rcases Nat.lt_or_ge i j with hlt | hge
      · exact (List.pairwise_iff_getElem.1 h.srt) i j hi hj hlt
      · obtain rfl : i = j := by omega
        exact Int.le_refl _
    simp only [decide_eq_true_eq] at hp ⊢
    omega
set_option maxRecDepth 100000 in
theorem sm_of {l : LH} {f : Lk} (h : l.lk = f) (h1 : f.pat.length ≤ 100000) (h2 : f.fly.length ≤ 100000) (h3 : ∀ x ∈ f.fly, x.2.length ≤ 100000) : LkSm l := by
  subst h
  refine ⟨h1, by rwa [fly_len] at h2, fun x hx => ?_⟩
  exact h3 x.fl (List.mem_map_of_mem hx)
set_option maxRecDepth 100000 in
theorem ValidL.of {l : Lk} (h1 : l.pat.length ≤ 200) (h2 : 0 ≤ l.now ∧ l.now ≤ 1099511627776) (h3 : 0 ≤ l.sent ∧ l.sent ≤ 1099511627776) (hg : GoodF l.now l.fly) : ValidL l := by
  have hgd : ∀ (k : Nat) (hk : k < l.fly.length), l.fly.getD k (0, []) = l.fly[k] := fun k hk => by rw [List.getD_eq_getElem?_getD, List.getElem?_eq_getElem hk]; rfl
  refine ⟨h1, h2, h3, hg.len, fun k hk => ?_⟩
  have hr := hg.rng _ (List.getElem_mem hk)
  unfold FOk
  rw [hgd k hk]
  refine ⟨hr.2.2, hr.1, hr.2.1, fun h0 => ?_⟩
  rw [hgd (k - 1) (by omega)]
  exact (List.pairwise_iff_getElem.1 hg.srt) (k - 1) k (by omega) hk (by omega)
set_option maxRecDepth 100000 in
theorem GoodF.tick {now : Int} {f : List Fl} (h : GoodF now f) : GoodF (now + 1) (f.dropWhile (fun x => decide (x.1 = now + 1))) := by
  have e := h.tw.2
  rw [← e]
  refine ⟨Nat.le_trans (List.length_filter_le _ _) h.len, h.srt.filter _, fun x hx => ?_⟩
  obtain ⟨h1, h2⟩ := List.mem_filter.1 hx
  have h2 : ¬ x.1 = now + 1 := by simpa using h2
  have := h.rng x h1
  omega
set_option maxRecDepth 100000 in
theorem valid_tick {l : Lk} (h : ValidL l) : ValidL (tickL l).1 := by
  by_cases hn : l.now = 1099511627776
  · rw [tickL_bad (.inr hn)]
    decide
  · rw [tickL_ok (by intro hb; rcases hb with hb | hb; exact hb h; exact hn hb)]
    obtain ⟨h1, h2, h3, -, -⟩ := id h
    exact ValidL.of h1 (by dsimp only; omega) h3 h.good.tick
set_option maxRecDepth 100000 in
theorem LkRd.sm_tick {l L : LH} (h : LkSm l) (he : L.lk = (tickL l.lk).1) : LkSm L := by
  have hp : l.lk.pat = l.pat := rfl
  have hb : ∀ x ∈ l.lk.fly, x.2.length ≤ 100000 := fun x hx => by
    obtain ⟨y, hy, rfl⟩ := List.mem_map.1 hx
    exact h.data y hy
  have h2 := h.fly
  rw [← fly_len] at h2
  by_cases hbad : ¬ ValidL l.lk ∨ l.lk.now = 1099511627776
  · rw [tickL_bad hbad] at he
    exact sm_of he (by decide) (by decide) (by decide)
  · rw [tickL_ok hbad] at he
    refine sm_of he h.pat ?_ fun x hx => ?_
    · exact Nat.le_trans (List.dropWhile_sublist _).length_le h2
    · exact hb x ((List.dropWhile_sublist _).subset hx)
set_option maxRecDepth 100000 in
theorem mem_insF {f : List Fl} {x y : Fl} (h : y ∈ insF f x) : y ∈ f ∨ y = x := by
  unfold insF at h
  split at h
  · exact .inl h
  · rcases List.mem_append.1 h with h | h
    · exact .inl ((List.takeWhile_sublist _).subset h)
    · rcases List.mem_cons.1 h with h | h
      · exact .inr h
      · exact .inl ((List.dropWhile_sublist _).subset h)
set_option maxRecDepth 100000 in
theorem putAll_mem {now : Int} {d : List UInt8} : ∀ (ds : List Int) {f : List Fl} {y : Fl}, y ∈ putAll now d ds f → y ∈ f ∨ (∃ t ∈ ds, y = (now + t, d))
  | [], f, y, h => .inl h
  | t :: ds, f, y, h => by
    rcases putAll_mem ds (f := insF f (now + t, d)) h with h | ⟨s, hs, e⟩
    · rcases mem_insF h with h | h
      · exact .inl h
      · exact .inr ⟨t, by simp, h⟩
    · exact .inr ⟨s, by simp [hs], e⟩
set_option maxRecDepth 100000 in
theorem putAll_len {now : Int} {d : List UInt8} : ∀ (ds : List Int) {f : List Fl}, (putAll now d ds f).length ≤ f.length + ds.length
  | [], f => Nat.le_refl _
  | t :: ds, f => by
    have h1 := putAll_len (now := now) (d := d) ds (f := insF f (now + t, d))
    have h2 := insF_len (f := f) (x := (now + t, d))
    show (putAll now d ds (insF f (now + t, d))).length ≤ _
    simp only [List.length_cons]
    omega
set_option maxRecDepth 100000 in
theorem sendL_dec (l : Lk) (d : List UInt8) : (sendL l d = (1, lk0)) ∨ (sendL l d = (6, lk0)) ∨ (ValidL l ∧ ¬ l.sent = 1099511627776 ∧ d.length ≤ 1000 ∧ sendL l d = (0, { l with sent := l.sent + 1, fly := putAll l.now (arr (fate l) d) (delays (fate l)) l.fly })) := by
  by_cases h : ¬ ValidL l ∨ l.sent = 1099511627776
  · exact .inl (sendL_bad h)
  · by_cases h2 : 1000 < d.length
    · exact .inr (.inl (sendL_long h h2))
    · exact .inr (.inr ⟨Classical.byContradiction fun hn => h (.inl hn), fun e => h (.inr e), by omega, sendL_ok h h2⟩)
set_option maxRecDepth 100000 in
theorem sm_send {l L : LH} {d : List UInt8} (h : LkSm l) (he : L.lk = (sendL l.lk d).2) : LkSm L := by
  rcases sendL_dec l.lk d with e | e | ⟨hv, -, hd, e⟩
  · rw [e] at he
    exact sm_of he (by decide) (by decide) (by decide)
  · rw [e] at he
    exact sm_of he (by decide) (by decide) (by decide)
  · rw [e] at he
    have hf := hv.good.len
    refine sm_of he h.pat ?_ fun x hx => ?_
    · have h1 := putAll_len (now := l.lk.now) (d := arr (fate l.lk) d) (delays (fate l.lk)) (f := l.lk.fly)
      have h2 := delays_len (fate l.lk)
      dsimp only
      omega
    · rcases putAll_mem _ hx with hx | ⟨t, -, rfl⟩
      · obtain ⟨y, hy, rfl⟩ := List.mem_map.1 hx
        exact h.data y hy
      · dsimp only
        rw [arr_len]
        omega
set_option maxRecDepth 100000 in
theorem valid_send {l : Lk} {d : List UInt8} (h : (sendL l d).1 = 0) : ValidL (sendL l d).2 := by
  rcases sendL_dec l d with e | e | ⟨hv, hs, hd, e⟩
  · rw [e] at h
    cases h
  · rw [e] at h
    cases h
  · rw [e]
    obtain ⟨h1, h2, h3, -, -⟩ := id hv
    exact ValidL.of h1 h2 (by dsimp only; omega) (GoodF.putAll (by rw [arr_len]; omega) _ hv.good fun t ht => delays_rng ht)
set_option maxRecDepth 100000 in
theorem sm_new {L : LH} {p : List UInt8} (he : L.lk = (newL p).2) : LkSm L := by
  unfold newL at he
  split at he
  · exact sm_of he (by decide) (by decide) (by decide)
  · rename_i hp
    exact sm_of he (by dsimp only; omega) (by simp) (fun x hx => by cases hx)
set_option maxRecDepth 100000 in
theorem tick_ok {l : Lk} (hv : ValidL l) (hn : l.now < 1099511627776) : tickL l = ({ l with now := l.now + 1, fly := l.fly.dropWhile (fun f => decide (f.1 = l.now + 1)) }, (l.fly.takeWhile (fun f => decide (f.1 = l.now + 1))).map (·.2)) :=
  tickL_ok (by intro h; rcases h with h | h; exact h hv; omega)
def LH.blks (l : LH) : List Nat := l.PA.toList.map (·.block) ++ (l.FA.toList.map (·.block) ++ l.fly.flatMap fun x => x.A.toList.map (·.block))
def LH.blksIn (l : LH) (a b : Nat) : List Nat := l.blks.filter fun x => decide (a ≤ x ∧ x < b)
set_option maxRecDepth 100000 in
theorem LH.in_blks {l : LH} {a b x : Nat} (h : x ∈ l.blksIn a b) : a ≤ x ∧ x < b := by
  have := (List.mem_filter.1 h).2
  simpa using this
set_option maxRecDepth 100000 in
theorem LkN.beside {base g : Nat} {H1 H2 H3 : Heap} {l : LH} (h : LkN base H1 l) (hx : Ext H1 H2) (hK : Keep [g] H2 H3) (hg : g ∉ l.blksIn base H1.size ++ []) : LkN base H3 l := by
  rw [List.append_nil] at hg
  have key : ∀ {α : Type} {c : El α} {A : Option Addr} {d : List α}, Rd c H1 A d → (∀ p, A = some p → base ≤ p.block ∧ p.block ∈ l.blks) → Rd c H3 A d := fun {α c A d} h0 hp hn => by
    obtain ⟨p, e, hc⟩ := h0 hn
    obtain ⟨q, e', hq⟩ := h0.lt (List.length_pos_iff.2 hn)
    rw [e] at e'
    obtain rfl := Option.some.inj e'
    have hb := hp p e
    have hne : p.block ≠ g := fun e2 => hg (e2 ▸ List.mem_filter.2 ⟨hb.2, by simpa using ⟨hb.1, hq⟩⟩)
    exact ⟨p, e, fun j u hu => hK.cell (hx.cell (hc j u hu)) (by rw [block_of_add]; simpa using hne)⟩
  refine ⟨⟨key h.rd.pat fun p e => ⟨h.lP p e, ?_⟩, key h.rd.fly fun p e => ⟨h.lF p e, ?_⟩, fun x hx => key (h.rd.data x hx) fun p e => ⟨h.lD x hx p e, ?_⟩, h.rd.fcap⟩, h.lP, h.lF, h.lD⟩
  · unfold LH.blks
    rw [e]
    simp
  · unfold LH.blks
    rw [e]
    simp
  · unfold LH.blks
    refine List.mem_append.2 (.inr (List.mem_append.2 (.inr (List.mem_flatMap.2 ⟨x, hx, ?_⟩))))
    rw [e]
    simp
set_option maxRecDepth 100000 in
theorem LkN.m {base : Nat} {H : Heap} {l : LH} {M : List Nat} (h : LkN base H l) (hM : ∀ b ∈ M, b < base) : LkM M H l :=
  ⟨RdM.of h.rd.pat fun p e hm => (by have := h.lP p e; have := hM _ hm; omega), RdM.of h.rd.fly fun p e hm => (by have := h.lF p e; have := hM _ hm; omega), fun x hx => RdM.of (h.rd.data x hx) fun p e hm => (by have := h.lD x hx p e; have := hM _ hm; omega), h.rd.fcap⟩
set_option maxRecDepth 100000 in
theorem dw_gt {f : List Fl} {n : Int} (h : f.Pairwise fun a b => a.1 ≤ b.1) : ∀ x ∈ f.dropWhile (fun y => decide (y.1 ≤ n)), n < x.1 := by
  induction f with
  | nil => simp
  | cons a f ih =>
    intro x hx
    rw [List.pairwise_cons] at h
    rw [List.dropWhile_cons] at hx
    split at hx
    · exact ih h.2 x hx
    · rename_i ha
      have ha : n < a.1 := by simpa using ha
      rcases List.mem_cons.1 hx with rfl | hx
      · exact ha
      · have := h.1 x hx
        omega
end Go.Proofs.Ytcfnmklbkhibgaa
