/- Plain facts on 64-bit words as whole numbers: masks, disjoint or, single bits, fields. No program in sight. -/
import Derived.Laws.BitsLemmas
import Derived.Test.YtehbhpkmlmeblaaWMore
import Derived.Test.YtehbhpkmlmeblaaWNEv
namespace Go.Proofs.Ytehbhpkmlmeblaa.Bits
open Go.RowKit Go.Proofs.YtehbhpkmlmeblaaW.PrintWords Go.Proofs.YtehbhpkmlmeblaaW.PrintLast Go.Proofs.YtehbhpkmlmeblaaW.PrintMore
set_option linter.unusedVariables false
set_option linter.unusedSimpArgs false

/-- one round: what follows is told with one round more -/
theorem wraps_u64 (n : Int) (h0 : 0 ≤ n) (h1 : n < 2 ^ 64) : IntKind.u64.wrap n = n := by
  have h1' : n < 18446744073709551616 := h1
  simp [IntKind.wrap, IntKind.bits, IntKind.signed]
  omega

theorem wrap_u64_eq (n : Int) : IntKind.u64.wrap n = n % 18446744073709551616 := by
  simp [IntKind.wrap, IntKind.bits, IntKind.signed]

theorem wf_i64 {n : Int} : (Lit.int .i64 n).wf = true ↔ -9223372036854775808 ≤ n ∧ n ≤ 9223372036854775807 := by
  have h0 : IntKind.i64.min = -9223372036854775808 := by decide
  have h1 : IntKind.i64.max = 9223372036854775807 := by decide
  rw [Lit.wf, h0, h1]
  simp only [Bool.and_eq_true, decide_eq_true_eq]

theorem natlt {a : Nat} (h : (a : Int) < 18446744073709551616) : a < 2 ^ 64 := by
  have : (2 : Nat) ^ 64 = 18446744073709551616 := by decide
  omega

theorem nat_and_bit (a i : Nat) : a &&& 2 ^ i = a / 2 ^ i % 2 * 2 ^ i := by
  have ht : a.testBit i = decide (a / 2 ^ i % 2 = 1) := Nat.testBit_eq_decide_div_mod_eq
  apply Nat.eq_of_testBit_eq
  intro j
  rw [Nat.testBit_and, Nat.testBit_two_pow]
  by_cases hj : i = j
  · subst hj
    by_cases h : a / 2 ^ i % 2 = 1
    · simp [ht, h, Nat.testBit_two_pow]
    · have h0 : a / 2 ^ i % 2 = 0 := by omega
      simp [ht, h0]
  · have h2 : a / 2 ^ i % 2 = 0 ∨ a / 2 ^ i % 2 = 1 := by omega
    rcases h2 with h | h
    · simp [h, hj]
    · simp [h, hj, Nat.testBit_two_pow]

theorem wrap64_of {n : Int} (h0 : -9223372036854775808 ≤ n) (h1 : n ≤ 9223372036854775807) : wrap64 n = n := by unfold wrap64; omega

theorem nat_or_add (a b : Nat) (ha : a < 2 ^ 64) (hb : b < 2 ^ 64) (h : a &&& b = 0) : a ||| b = a + b := by
  have hx : (BitVec.ofNat 64 a) &&& (BitVec.ofNat 64 b) = 0#64 := by
    apply BitVec.eq_of_toNat_eq
    rw [BitVec.toNat_and, BitVec.toNat_ofNat, BitVec.toNat_ofNat, Nat.mod_eq_of_lt ha, Nat.mod_eq_of_lt hb, h]
    rfl
  have h1 := BitVec.add_eq_or_of_and_eq_zero (BitVec.ofNat 64 a) (BitVec.ofNat 64 b) hx
  have h2 := congrArg BitVec.toNat h1
  rw [BitVec.toNat_or, BitVec.toNat_add, BitVec.toNat_ofNat, BitVec.toNat_ofNat, Nat.mod_eq_of_lt ha, Nat.mod_eq_of_lt hb] at h2
  have hs : (a ||| b) < 2 ^ 64 := Nat.or_lt_two_pow ha hb
  have hle : a + b < 2 ^ 64 := by
    have hc := (BitVec.toNat_add_of_and_eq_zero (x := BitVec.ofNat 64 a) (y := BitVec.ofNat 64 b) hx)
    have hlt := (BitVec.ofNat 64 a + BitVec.ofNat 64 b).isLt
    rw [hc, BitVec.toNat_ofNat, BitVec.toNat_ofNat, Nat.mod_eq_of_lt ha, Nat.mod_eq_of_lt hb] at hlt
    exact hlt
  rw [Nat.mod_eq_of_lt hle] at h2
  exact h2.symm

theorem and_u64_nat (a b : Nat) (ha : a < 2 ^ 64) (hb : b < 2 ^ 64) : bits .and .u64 a b = ((a &&& b : Nat) : Int) := (bits_nat .u64 64 (by decide) wraps_u64 a b ha hb).1
theorem or_u64_nat (a b : Nat) (ha : a < 2 ^ 64) (hb : b < 2 ^ 64) : bits .or .u64 a b = ((a ||| b : Nat) : Int) := (bits_nat .u64 64 (by decide) wraps_u64 a b ha hb).2

/-- one bit of a word, tested -/
theorem and_bit (x : Int) (i : Nat) (hi : i < 64) (h0 : 0 ≤ x) (h1 : x < 18446744073709551616) : bits .and .u64 x ((2 ^ i : Nat) : Int) = (x / ((2 ^ i : Nat) : Int) % 2) * ((2 ^ i : Nat) : Int) := by
  obtain ⟨a, rfl⟩ := Int.eq_ofNat_of_zero_le h0
  have ha : a < 2 ^ 64 := natlt h1
  have hb : 2 ^ i < 2 ^ 64 := Nat.pow_lt_pow_right (by decide) hi
  rw [and_u64_nat a _ ha hb, nat_and_bit, Int.natCast_mul, Int.natCast_emod, Int.natCast_ediv]
  rfl

/-- one bit of a word, set where it is not set -/
theorem or_bit (x : Int) (i : Nat) (hi : i < 64) (h0 : 0 ≤ x) (h1 : x < 18446744073709551616) (hz : x / ((2 ^ i : Nat) : Int) % 2 = 0) : bits .or .u64 x ((2 ^ i : Nat) : Int) = x + ((2 ^ i : Nat) : Int) := by
  obtain ⟨a, rfl⟩ := Int.eq_ofNat_of_zero_le h0
  have ha : a < 2 ^ 64 := natlt h1
  have hb : 2 ^ i < 2 ^ 64 := Nat.pow_lt_pow_right (by decide) hi
  have hz' : a / 2 ^ i % 2 = 0 := by
    have : ((a / 2 ^ i % 2 : Nat) : Int) = 0 := by rw [Int.natCast_emod, Int.natCast_ediv]; exact hz
    omega
  rw [or_u64_nat a _ ha hb, nat_or_add a _ ha hb (by rw [nat_and_bit, hz', Nat.zero_mul]), Int.natCast_add]

theorem p64 : (2 : Int) ^ 64 = 18446744073709551616 := by decide
/-- a low part below a multiple -/
theorem or_low (x y : Int) (i : Nat) (hx0 : 0 ≤ x) (hx : x % 2 ^ i = 0) (hx1 : x < 18446744073709551616) (hy0 : 0 ≤ y) (hy : y < 2 ^ i) (hy1 : y < 18446744073709551616) : bits .or .u64 x y = x + y :=
  bits_join .u64 64 (by decide) wraps_u64 i x y hx0 hx (p64 ▸ hx1) hy0 hy (p64 ▸ hy1)
/-- a high part above -/
theorem or_high (x y : Int) (i : Nat) (hx0 : 0 ≤ x) (hx : x % 2 ^ i = 0) (hx1 : x < 18446744073709551616) (hy0 : 0 ≤ y) (hy : y < 2 ^ i) (hy1 : y < 18446744073709551616) : bits .or .u64 y x = x + y := by
  rw [← or_low x y i hx0 hx hx1 hy0 hy hy1]
  obtain ⟨a, rfl⟩ := Int.eq_ofNat_of_zero_le hx0
  obtain ⟨b, rfl⟩ := Int.eq_ofNat_of_zero_le hy0
  rw [or_u64_nat _ _ (natlt hy1) (natlt hx1), or_u64_nat _ _ (natlt hx1) (natlt hy1), Nat.or_comm]
end Go.Proofs.Ytehbhpkmlmeblaa.Bits
