/- TransportOffer: the row. -/
import Derived.Test.YtcfnmklbkhibgaaQ5
namespace Go.Proofs.Ytcfnmklbkhibgaa
open Go.ChangeShapes Go.WideShapes Go.ChangeAt Go.RowKit Go.Deep

set_option maxRecDepth 100000 in
theorem opn_val (W : World) : Opn Try.prog W 80 3 eVal.F (fun _ => True) :=
  (opn_struct Try.underlying80 (by kernel_rfl) (opnF_cons rfl (opn_int Try.underlying3 (by kernel_rfl)) (opnF_cons rfl (opn_int Try.underlying3 (by kernel_rfl)) (opnF_cons rfl (opn_str Try.underlying9 (by kernel_rfl)) (opnF_nil rfl))))).map (fun a : Int × Int × ByteArray × Unit => (a.1, a.2.1, a.2.2.1)) (fun _ => rfl) (fun _ _ => trivial)
set_option maxRecDepth 100000 in
theorem opn_vals (W : World) : Opn Try.prog W 24 1 (fun a : Option Addr × Nat × List PVal => [.slice a.1 a.2.2.length a.2.1]) (fun a => Rd eVal W.heap a.1 a.2.2 ∧ (∀ x ∈ a.2.2, True) ∧ a.2.2.length ≤ a.2.1 ∧ a.2.1 ≤ maxLen) := opn_slice (c := eVal) Try.underlying24 (by kernel_rfl) (opn_val W)
set_option maxRecDepth 100000 in
theorem opn_ints (W : World) : Opn Try.prog W 25 1 (fun a : Option Addr × Nat × List Int => [.slice a.1 a.2.2.length a.2.1]) (fun a => Rd eInt W.heap a.1 a.2.2 ∧ (∀ x ∈ a.2.2, In64 x) ∧ a.2.2.length ≤ a.2.1 ∧ a.2.1 ≤ maxLen) := opn_slice (c := eInt) Try.underlying25 (by kernel_rfl) (opn_int Try.underlying3 (by kernel_rfl))
abbrev PkX := Pk × (Option Addr × Nat) × (Option Addr × Nat)
def PkOk (W : World) (x : PkX) : Prop := Rd eVal W.heap x.2.1.1 x.1.vals ∧ Rd eInt W.heap x.2.2.1 x.1.clk ∧ x.1.vals.length ≤ 9223372036854775807
set_option maxRecDepth 100000 in
theorem opn_pk (W : World) : Opn Try.prog W 39 9 (fun x : PkX => pkC x.1 x.2.1.1 x.2.1.2 x.2.2.1 x.2.2.2) (PkOk W) :=
  (opn_struct Try.underlying39 (by kernel_rfl)
    (opnF_cons rfl (opn_int Try.underlying3 (by kernel_rfl)) (opnF_cons rfl (opn_int Try.underlying3 (by kernel_rfl)) (opnF_cons rfl (opn_int Try.underlying3 (by kernel_rfl)) (opnF_cons rfl (opn_int Try.underlying3 (by kernel_rfl)) (opnF_cons rfl (opn_int Try.underlying3 (by kernel_rfl))
    (opnF_cons rfl (opn_int Try.underlying3 (by kernel_rfl)) (opnF_cons rfl (opn_int Try.underlying3 (by kernel_rfl)) (opnF_cons rfl (opn_vals W) (opnF_cons rfl (opn_ints W) (opnF_nil rfl))))))))))).map
    (fun a => (⟨a.1, a.2.1, a.2.2.1, a.2.2.2.1, a.2.2.2.2.1, a.2.2.2.2.2.1, a.2.2.2.2.2.2.1, a.2.2.2.2.2.2.2.1.2.2, a.2.2.2.2.2.2.2.2.1.2.2⟩, (a.2.2.2.2.2.2.2.1.1, a.2.2.2.2.2.2.2.1.2.1), (a.2.2.2.2.2.2.2.2.1.1, a.2.2.2.2.2.2.2.2.1.2.1))) (fun _ => rfl)
    (fun a ha => ⟨ha.2.2.2.2.2.2.2.1.1, ha.2.2.2.2.2.2.2.2.1.1, by have h1 := ha.2.2.2.2.2.2.2.1.2.2.1; have h2 := ha.2.2.2.2.2.2.2.1.2.2.2; have h3 := Nat.le_trans h1 h2; unfold maxLen at h3; exact h3⟩)
set_option maxRecDepth 100000 in
theorem opn_sd (W : World) : Opn Try.prog W 41 13 (fun x : Sd × (Option Addr × Nat) × (Option Addr × Nat) => sdC x.1 x.2.1.1 x.2.1.2 x.2.2.1 x.2.2.2) (fun x => PkOk W (x.1.pk, x.2)) :=
  (opn_struct Try.underlying41 (by kernel_rfl)
    (opnF_cons rfl (opn_int Try.underlying3 (by kernel_rfl)) (opnF_cons rfl (opn_bool Try.underlying4 (by kernel_rfl)) (opnF_cons rfl (opn_pk W) (opnF_cons rfl (opn_int Try.underlying3 (by kernel_rfl)) (opnF_cons rfl (opn_int Try.underlying3 (by kernel_rfl)) (opnF_nil rfl))))))).map
    (fun a => (⟨a.1, a.2.1, a.2.2.1.1, a.2.2.2.1, a.2.2.2.2.1⟩, a.2.2.1.2)) (fun _ => rfl) (fun a ha => ha.2.2.1)
set_option maxRecDepth 100000 in
theorem Opn.mapP {P : Program} {W : World} {t : TypeId} {α β : Type} {sz : Nat} {F : α → List Value} {Pr : α → Prop} {F' : β → List Value} {Pr' : β → Prop} (h : Opn P W t sz F Pr) (g : α → β) (hF : ∀ a, Pr a → F a = F' (g a)) (hP : ∀ a, Pr a → Pr' (g a)) : Opn P W t sz F' Pr' :=
  ⟨h.1, fun H enc fuel cs x hx => by obtain ⟨a, rfl, ha⟩ := h.2 H enc fuel cs x hx; exact ⟨g a, hF a ha, hP a ha⟩⟩
set_option maxRecDepth 100000 in
theorem opn_two (W : World) : Opn Try.prog W 42 2 (fun x : Int × Int => [.int .i64 x.1, .int .i64 x.2]) (fun _ => True) :=
  (opn_array Try.underlying42 (by kernel_rfl) rfl (opn_int Try.underlying3 (by kernel_rfl))).mapP (fun l => (l.getD 0 0, l.getD 1 0)) (fun l hl => by
    match l, hl.1 with
    | [a, b], _ => rfl) (fun _ _ => trivial)
set_option maxRecDepth 100000 in
set_option maxRecDepth 100000 in
theorem transportOffer_lifted (os : Os) (started : os.Started) (H : Type) (enc : TypeId × Value → H) :
    ReturnsInHanded {} Try.checked os 4 .any (Rows.transportOfferSpec.pre6 enc Try.prog Try.f4 Rows.transportOfferRow.domain false) (Rows.transportOfferSpec.post enc Try.prog Try.f4 false true false false) := by
  refine law_lifted started Rows.transportOfferSpec rfl (by kernel_rfl) Try.func4 rfl
    (fun ds h => by match ds, h with | [_, _, _], _ => rfl) (of_decide_eq_true (by kernel_rfl))
    (ChangeSpec.witness6 (enc := enc) (C := Try.checked) false ⟨#[], #[.agg #[.int .i64 0, .bool false, .int .i64 0, .int .i64 0, .int .i64 0, .int .i64 0, .int .i64 0, .int .i64 0, .int .i64 0, .slice none 0 0, .slice none 0 0, .int .i64 0, .int .i64 0], .agg #[.int .i64 0, .int .i64 0, .int .i64 0, .int .i64 0, .int .i64 0, .int .i64 0, .int .i64 0, .slice none 0 0, .slice none 0 0], .agg #[.int .i64 0, .int .i64 0]], []⟩ 8 (by kernel_rfl) (by kernel_rfl) (by kernel_rfl) (by kernel_rfl)) ?_
  intro W base args ds p hval hA
  rw [Try.params4] at hA hval
  obtain ⟨v0, v1, v2, d0, d1, d2, p0, p1, p2, rfl, rfl, rfl, h0, h1, h2⟩ := trodAll_three hA
  have g0 := hval 0 _ v0 rfl rfl
  have g1 := hval 1 _ v1 rfl rfl
  have g2 := hval 2 _ v2 rfl rfl
  obtain ⟨⟨s, ⟨A, ca⟩, ⟨B, cb⟩⟩, rfl, kA, kB, hl⟩ := (opn_sd W).agg Try.underlying41 rfl g0 h0
  obtain ⟨⟨p, ⟨C, cc⟩, ⟨D, cd⟩⟩, rfl, kC, kD, hl2⟩ := (opn_pk W).agg Try.underlying39 rfl g1 h1
  obtain ⟨⟨n0, n1⟩, rfl, -⟩ := (opn_two W).agg Try.underlying42 rfl g2 h2
  exact tOffer_walk s p n0 n1 A B C D ca cb cc cd W.heap kA kB kC kD hl hl2
set_option maxRecDepth 100000 in
theorem transportOffer_holds : Rows.TransportOfferSaid :=
  OpenClaim.holds_of_wide 4 Try.f4 rfl rfl rfl rfl rfl rfl rfl ⟨rfl, rfl, rfl, rfl, rfl⟩ rfl rfl rfl rfl rfl (by kernel_rfl) Try.func4 (by kernel_rfl)
    (of_decide_eq_true (by kernel_rfl)) (by unfold Func.isWrapper; first | (rw [if_pos (by decide +kernel)]; kernel_rfl) | (rw [if_neg (by decide +kernel)]; exact ⟨rfl, rfl⟩))
    (fun os started H enc _ => transportOffer_lifted os started H enc)
end Go.Proofs.Ytcfnmklbkhibgaa
