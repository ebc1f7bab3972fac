/- Plain laws of layer 1: encodings of different values differ, even as parts of longer lists. Nothing of the program. -/
import Derived.Test.YtmiijlmjpaiinaaWSame
namespace Go.Proofs.Ytmiijlmjpaiinaa

theorem encBytes_inj {x y r s : List UInt8} (hx : x.length ≤ 1000000) (hy : y.length ≤ 1000000) (h : encBytes x ++ r = encBytes y ++ s) : x = y ∧ r = s := by
  unfold encBytes at h
  rw [List.append_assoc, List.append_assoc] at h
  obtain ⟨h1, h2⟩ := encI_inj (P64_len hx) (P64_len hy) h
  exact List.append_inj h2 (by omega)
theorem encI_eq {n m : Int} (hn : P64 n) (hm : P64 m) : encI n = encI m ↔ n = m :=
  ⟨fun h => (encI_inj (r := []) (s := []) hn hm (by rw [h])).1, fun h => by rw [h]⟩
theorem encBytes_eq {x y : List UInt8} (hx : x.length ≤ 1000000) (hy : y.length ≤ 1000000) : encBytes x = encBytes y ↔ x = y :=
  ⟨fun h => (encBytes_inj (r := []) (s := []) hx hy (by rw [h])).1, fun h => by rw [h]⟩
theorem properV_cases {v : Val} (h : properV v = true) : (v.kind = 1 ∧ v.s = ⟨#[]⟩) ∨ (v.kind = 2 ∧ v.n = 0) := by
  unfold properV at h
  rw [Bool.or_eq_true, Bool.and_eq_true, Bool.and_eq_true, beq_iff_eq, beq_iff_eq, beq_iff_eq, beq_iff_eq] at h
  rcases h with ⟨h1, h2⟩ | h
  · exact .inl ⟨h1, toList_inj (h2.trans (by rw [ByteArray.toList_eq]))⟩
  · exact .inr h
theorem encV_inj {v u : Val} {r s : List UInt8} (hv : OkV v) (hu : OkV u) (pv : properV v = true) (pu : properV u = true) (h : encV v ++ r = encV u ++ s) : v = u ∧ r = s := by
  unfold encV at h
  rw [List.append_assoc, List.append_assoc] at h
  obtain ⟨h1, h2⟩ := encI_inj hv.1 hu.1 h
  obtain ⟨vk, vn, vs⟩ := v
  obtain ⟨uk, un, us⟩ := u
  obtain ⟨-, hv2, hv3⟩ := hv
  obtain ⟨-, hu2, hu3⟩ := hu
  have pv := properV_cases pv
  have pu := properV_cases pu
  dsimp only at h1 h2 hv2 hv3 hu2 hu3 pv pu
  subst h1
  rcases pv with ⟨rfl, rfl⟩ | ⟨rfl, rfl⟩
  · rcases pu with ⟨_, rfl⟩ | ⟨h, _⟩
    · rw [if_pos rfl, if_pos rfl] at h2
      obtain ⟨rfl, h3⟩ := encI_inj hv2 hu2 h2
      exact ⟨rfl, h3⟩
    · omega
  · rcases pu with ⟨h, _⟩ | ⟨_, rfl⟩
    · omega
    · rw [if_neg (by omega), if_pos rfl, if_neg (by omega), if_pos rfl] at h2
      obtain ⟨h3, h4⟩ := encBytes_inj hv3 hu3 h2
      refine ⟨?_, h4⟩
      have : vs = us := by
        cases vs; cases us
        simpa using Array.toList_inj.1 h3
      rw [this]
theorem flatV_inj : ∀ {x y : List Val} {r s : List UInt8}, x.length = y.length → (∀ v ∈ x, OkV v ∧ properV v = true) → (∀ v ∈ y, OkV v ∧ properV v = true) → x.flatMap encV ++ r = y.flatMap encV ++ s → x = y ∧ r = s := by
  intro x
  induction x with
  | nil => intro y r s hl _ _ h; cases y with
    | nil => exact ⟨rfl, h⟩
    | cons _ _ => simp at hl
  | cons v x ih => intro y r s hl hx hy h; cases y with
    | nil => simp at hl
    | cons u y =>
      rw [List.flatMap_cons, List.flatMap_cons, List.append_assoc, List.append_assoc] at h
      obtain ⟨rfl, h2⟩ := encV_inj (hx v (by simp)).1 (hy u (by simp)).1 (hx v (by simp)).2 (hy u (by simp)).2 h
      obtain ⟨rfl, h3⟩ := ih (by simpa using hl) (fun z hz => hx z (by simp [hz])) (fun z hz => hy z (by simp [hz])) h2
      exact ⟨rfl, h3⟩
theorem encVals_eq {x y : List Val} (hlx : x.length ≤ 1000000) (hly : y.length ≤ 1000000) (hx : ∀ v ∈ x, OkV v ∧ properV v = true) (hy : ∀ v ∈ y, OkV v ∧ properV v = true) : encVals x = encVals y ↔ x = y := by
  constructor
  · intro h
    unfold encVals at h
    obtain ⟨h1, h2⟩ := encI_inj (P64_len hlx) (P64_len hly) h
    exact (flatV_inj (r := []) (s := []) (by omega) hx hy (by rw [h2])).1
  · rintro rfl; rfl

end Go.Proofs.Ytmiijlmjpaiinaa
