/- Bit arithmetic of package wire, in plain numbers. -/
import Derived.Test.YtcfnmklbkhibgaaWSpec
import Derived.Laws.BitsAllLaws
import Derived.Laws.BitsLemmas
import Derived.Laws.Bits64
import Derived.Laws.Wrap64
import Derived.IntWalk
import Derived.RowKit
namespace Go.Proofs.Ytcfnmklbkhibgaa

theorem xor_ones (a : Nat) (ha : a < 18446744073709551616) : a ^^^ 18446744073709551615 = 18446744073709551615 - a := by
  have h : (BitVec.ofNat 64 a ^^^ BitVec.allOnes 64).toNat = (~~~ (BitVec.ofNat 64 a)).toNat := by rw [BitVec.xor_allOnes]
  rw [BitVec.toNat_xor, BitVec.toNat_not, BitVec.toNat_ofNat, BitVec.toNat_allOnes, Nat.mod_eq_of_lt (by omega)] at h
  simpa using h

theorem zig_bits {n : Int} (h : P64 n) : bits BinOp.xor IntKind.u64 (IntKind.u64.wrap (IntKind.u64.wrap n * 2)) (IntKind.u64.wrap (n / 9223372036854775808)) = ((zig n : Nat) : Int) := by
  obtain ⟨h1, h2⟩ := h
  rw [IntKind.wrap_u64, IntKind.wrap_u64, IntKind.wrap_u64]
  by_cases h0 : n < 0
  · have e1 : n / 9223372036854775808 % 18446744073709551616 = 18446744073709551615 := by omega
    have e2 : n % 18446744073709551616 * 2 % 18446744073709551616 = ((18446744073709551616 + 2 * n) : Int).toNat := by omega
    rw [e1, e2]
    have := u64_xor_nat (18446744073709551616 + 2 * n).toNat 18446744073709551615 (by omega) (by omega)
    refine this.trans ?_
    rw [xor_ones _ (by omega)]
    unfold zig
    rw [if_neg (by omega)]
    omega
  · have e1 : n / 9223372036854775808 % 18446744073709551616 = 0 := by omega
    have e2 : n % 18446744073709551616 * 2 % 18446744073709551616 = ((2 * n.toNat : Nat) : Int) := by omega
    rw [e1, e2]
    have := u64_xor_nat (2 * n.toNat) 0 (by omega) (by omega)
    refine this.trans ?_
    unfold zig
    rw [if_pos (by omega), Nat.xor_zero]

theorem or_128 : ∀ x : Nat, x < 256 → x ||| 128 = x % 128 + 128 := by decide +kernel
theorem and_127 : ∀ x : Nat, x < 256 → x &&& 127 = x % 128 := by decide +kernel

theorem pow_128 (k : Nat) : (128 : Nat) ^ k = 2 ^ (7 * k) := by rw [Nat.pow_mul]
/-- Seven more bits. -/
theorem acc_bits {acc k m : Nat} (hk : k < 10) (ha : acc < 128 ^ k) (hm : m < 256) :
    ∃ acc' : Nat, bits BinOp.or IntKind.u64 (acc : Int) (IntKind.u64.wrap (IntKind.u64.wrap (bits BinOp.and IntKind.u8 (m : Int) 127) * 2 ^ (7 * k))) = (acc' : Int) ∧ acc' < 128 ^ (k + 1) ∧ acc' < 18446744073709551616 ∧
      (k < 9 ∨ m ≤ 1 → acc' = acc + 128 ^ k * (m % 128)) := by
  have h1 := u8_and_nat m 127 hm (by omega)
  rw [and_127 m hm] at h1
  have h1' : bits BinOp.and IntKind.u8 (m : Int) 127 = ((m % 128 : Nat) : Int) := h1
  have e1 : IntKind.u64.wrap ((m % 128 : Nat) : Int) = ((m % 128 : Nat) : Int) := by rw [IntKind.wrap_u64]; omega
  rw [h1', e1]
  have e2 : ((m % 128 : Nat) : Int) * 2 ^ (7 * k) = ((m % 128 * 2 ^ (7 * k) : Nat) : Int) := by push_cast; rfl
  rw [e2, IntKind.wrap_u64]
  have e3 : ((m % 128 * 2 ^ (7 * k) : Nat) : Int) % 18446744073709551616 = ((m % 128 * 2 ^ (7 * k) % 18446744073709551616 : Nat) : Int) := by omega
  rw [e3]
  rw [pow_128] at ha
  have h64 : (18446744073709551616 : Nat) = 2 ^ 64 := by decide
  by_cases h9 : k < 9
  · have hlt : m % 128 * 2 ^ (7 * k) < 2 ^ (7 * (k + 1)) := by
      rw [Nat.mul_add, Nat.pow_add, Nat.mul_comm]
      exact Nat.mul_lt_mul_of_pos_left (by omega) (Nat.pow_pos (by omega))
    have hle : 2 ^ (7 * (k + 1)) ≤ 2 ^ 63 := Nat.pow_le_pow_right (by omega) (by omega)
    have h63 : (2 : Nat) ^ 63 = 9223372036854775808 := by decide
    have hacc : acc < 18446744073709551616 := by
      have : 2 ^ (7 * k) ≤ 2 ^ 63 := Nat.pow_le_pow_right (by omega) (by omega)
      omega
    rw [Nat.mod_eq_of_lt (by omega)]
    have hor : acc ||| m % 128 * 2 ^ (7 * k) = acc + 2 ^ (7 * k) * (m % 128) := by
      rw [Nat.or_comm, Nat.mul_comm, ← Nat.two_pow_add_eq_or_of_lt ha]
      omega
    refine ⟨acc + 2 ^ (7 * k) * (m % 128), ?_, ?_, ?_, fun _ => by rw [pow_128]⟩
    · rw [← hor]
      exact u64_or_nat acc _ hacc (by omega)
    · rw [pow_128, Nat.mul_add, Nat.pow_add]
      have : 2 ^ (7 * k) * (m % 128) ≤ 2 ^ (7 * k) * 127 := Nat.mul_le_mul_left _ (by omega)
      have e : 2 ^ (7 * k) * 2 ^ (7 * 1) = 2 ^ (7 * k) * 127 + 2 ^ (7 * k) := by
        have : (2 : Nat) ^ (7 * 1) = 127 + 1 := by decide
        rw [this, Nat.mul_add, Nat.mul_one]
      omega
    · have : 2 ^ (7 * k) * (m % 128) ≤ 2 ^ (7 * k) * 127 := Nat.mul_le_mul_left _ (by omega)
      have e : 2 ^ (7 * (k + 1)) = 2 ^ (7 * k) * 127 + 2 ^ (7 * k) := by
        rw [Nat.mul_add, Nat.pow_add]
        have : (2 : Nat) ^ (7 * 1) = 127 + 1 := by decide
        rw [this, Nat.mul_add, Nat.mul_one]
      omega
  · have hk9 : k = 9 := by omega
    subst hk9
    have h63 : (2 : Nat) ^ (7 * 9) = 9223372036854775808 := by decide
    rw [h63] at ha ⊢
    have emod : m % 128 * 9223372036854775808 % 18446744073709551616 = 9223372036854775808 * (m % 2) := by omega
    rw [emod]
    have hor : acc ||| 9223372036854775808 * (m % 2) = acc + 9223372036854775808 * (m % 2) := by
      have h := Nat.two_pow_add_eq_or_of_lt (i := 63) (b := acc) (by simpa using ha) (m % 2)
      have h63' : (2 : Nat) ^ 63 = 9223372036854775808 := by decide
      rw [h63'] at h
      rw [Nat.or_comm, ← h]
      omega
    refine ⟨acc + 9223372036854775808 * (m % 2), ?_, ?_, by omega, fun h => ?_⟩
    · rw [← hor]
      exact u64_or_nat acc _ (by omega) (by omega)
    · have : (128 : Nat) ^ (9 + 1) = 1180591620717411303424 := by decide
      omega
    · have : (128 : Nat) ^ 9 = 9223372036854775808 := by decide
      omega

open Go.RowKit in
/-- The integer out of its unsigned number. -/
theorem unzig_bits {u : Nat} (h : u < 18446744073709551616) :
    bits BinOp.xor IntKind.i64 (wrap64 ((u : Int) / 2)) (wrap64 (-wrap64 (bits BinOp.and IntKind.u64 (u : Int) 1))) = unzig u := by
  have h1 := u64_and_nat u 1 h (by omega)
  rw [Nat.and_one_is_mod] at h1
  have h1' : bits BinOp.and IntKind.u64 (u : Int) 1 = ((u % 2 : Nat) : Int) := h1
  have w1 : wrap64 ((u : Int) / 2) = ((u / 2 : Nat) : Int) := by rw [IntWalk.wrap64_in ((u : Int) / 2) (by omega)]; omega
  have w2 : wrap64 ((u % 2 : Nat) : Int) = ((u % 2 : Nat) : Int) := IntWalk.wrap64_in ((u % 2 : Nat) : Int) (by omega)
  have w3 : wrap64 (-((u % 2 : Nat) : Int)) = -((u % 2 : Nat) : Int) := IntWalk.wrap64_in (-((u % 2 : Nat) : Int)) (by omega)
  rw [h1', w1, w2, w3]
  unfold unzig
  have hu2 : u / 2 < 9223372036854775808 := by omega
  have hof : (BitVec.ofInt 64 ((u / 2 : Nat) : Int)).toNat = u / 2 := by
    rw [BitVec.ofInt_natCast, BitVec.toNat_ofNat]; exact Nat.mod_eq_of_lt (by omega)
  by_cases ho : u % 2 = 1
  · rw [if_pos ho, ho]
    show IntKind.i64.wrap ((BitVec.ofInt 64 ((u / 2 : Nat) : Int) ^^^ BitVec.ofInt 64 (-((1 : Nat) : Int))).toNat : Int) = _
    have hm : (BitVec.ofInt 64 (-((1 : Nat) : Int))).toNat = 18446744073709551615 := by decide
    rw [BitVec.toNat_xor, hof, hm, xor_ones _ (by omega), IntKind.wrap_i64]
    omega
  · have h0 : u % 2 = 0 := by omega
    rw [if_neg ho, h0]
    show IntKind.i64.wrap ((BitVec.ofInt 64 ((u / 2 : Nat) : Int) ^^^ BitVec.ofInt 64 (-((0 : Nat) : Int))).toNat : Int) = _
    have hm : (BitVec.ofInt 64 (-((0 : Nat) : Int))).toNat = 0 := by decide
    rw [BitVec.toNat_xor, hof, hm, Nat.xor_zero, IntKind.wrap_i64]
    omega

end Go.Proofs.Ytcfnmklbkhibgaa
