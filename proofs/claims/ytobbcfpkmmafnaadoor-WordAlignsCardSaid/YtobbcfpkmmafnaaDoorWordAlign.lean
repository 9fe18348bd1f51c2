/- Layer 1: what Down and Up compute. -/
import Derived.Test.YtobbcfpkmmafnaaDoorWordField
import Derived.Test.YtobbcfpkmmafnaaDoorQx7
namespace Go.Proofs.YtobbcfpkmmafnaaDoor.WordLib
open Go.RowKit Go.Proofs.YtobbcfpkmmafnaaDoorW.PrintWords Go.Proofs.YtobbcfpkmmafnaaDoorW.PrintLast Go.Proofs.YtobbcfpkmmafnaaDoorW.PrintMore Go.Proofs.YtobbcfpkmmafnaaDoor.Bits Go.Proofs.YtobbcfpkmmafnaaDoor.Q
set_option linter.unusedVariables false
set_option linter.unusedSimpArgs false

def okA (n o : Int) : Prop := 0 ≤ n ∧ n ≤ 1099511627776 ∧ 0 ≤ o ∧ o ≤ 20
instance (n o : Int) : Decidable (okA n o) := by unfold okA; infer_instance
theorem may_align (n o : Int) : word_may.f n o = some (decide (okA n o)) := by
  unfold word_may.f
  by_cases a : n ≥ 0
  · rw [if_pos a]
    by_cases b : n ≤ 1099511627776
    · rw [if_pos b]
      by_cases c : o ≥ 0
      · rw [if_pos c]; exact congrArg some (decide_eq_decide.mpr (by unfold okA; omega))
      · rw [if_neg c]; exact congrArg some (decide_eq_false (by unfold okA; omega)).symm
    · rw [if_neg b]; exact congrArg some (decide_eq_false (by unfold okA; omega)).symm
  · rw [if_neg a]; exact congrArg some (decide_eq_false (by unfold okA; omega)).symm

theorem andNot_low (a o : Nat) (ha : a < 2 ^ 62) (ho : o ≤ 40) : bits .andNot .i64 (a : Int) (((2 ^ o - 1 : Nat)) : Int) = ((a / 2 ^ o * 2 ^ o : Nat) : Int) := by
  have hp := Nat.two_pow_pos o
  have hpo : 2 ^ o ≤ 2 ^ 40 := Nat.pow_le_pow_right (by decide) ho
  have h40 : (2 : Nat) ^ 40 = 1099511627776 := by decide
  have h62 : (2 : Nat) ^ 62 = 4611686018427387904 := by decide
  have ha' : a % 2 ^ 64 = a := Nat.mod_eq_of_lt (by have : (2 : Nat) ^ 64 = 18446744073709551616 := by decide
                                                    omega)
  have hb' : (2 ^ o - 1) % 2 ^ 64 = 2 ^ o - 1 := Nat.mod_eq_of_lt (by have : (2 : Nat) ^ 64 = 18446744073709551616 := by decide
                                                                      omega)
  have e64 : IntKind.i64.bits = 64 := rfl
  simp only [bits, e64, BitVec.ofInt_natCast, BitVec.toNat_and, BitVec.toNat_not, BitVec.toNat_ofNat, ha', hb']
  have key : a &&& (2 ^ 64 - 1 - (2 ^ o - 1)) = a / 2 ^ o * 2 ^ o := by
    have hm : 2 ^ o - 1 < 2 ^ 64 := by have : (2 : Nat) ^ 64 = 18446744073709551616 := by decide
                                       omega
    apply Nat.eq_of_testBit_eq
    intro i
    rw [Nat.testBit_and, show a / 2 ^ o * 2 ^ o = (a / 2 ^ o) <<< o by rw [Nat.shiftLeft_eq], Nat.testBit_shiftLeft, Nat.testBit_div_two_pow]
    have c1 : (2 ^ 64 - 1 - (2 ^ o - 1)).testBit i = (decide (i < 64) && !(2 ^ o - 1).testBit i) := by
      have := Nat.testBit_two_pow_sub_succ hm i
      rw [show 2 ^ 64 - (2 ^ o - 1 + 1) = 2 ^ 64 - 1 - (2 ^ o - 1) by omega] at this
      exact this
    rw [c1, Nat.testBit_two_pow_sub_one]
    by_cases h64 : i < 64
    · by_cases h : o ≤ i
      · simp [h64, h, show ¬ i < o by omega, Nat.sub_add_cancel h]
      · simp [h64, h, show i < o by omega]
    · have hz : a.testBit i = false := Nat.testBit_lt_two_pow (Nat.lt_of_lt_of_le ha (Nat.pow_le_pow_right (by decide) (by omega)))
      by_cases h : o ≤ i
      · simp [hz, h, Nat.sub_add_cancel h]
      · simp [hz, h]
  rw [key, IntKind.wrap_i64]
  have := Nat.div_mul_le_self a (2 ^ o)
  omega

theorem Down_no (n o : Int) (h : ¬ okA n o) : word_Down.f n o = some (0, some 1) := by
  unfold word_Down.f
  rw [may_align]
  simp [h]
theorem Up_no (n o : Int) (h : ¬ okA n o) : word_Up.f n o = some (0, some 1) := by
  unfold word_Up.f
  rw [may_align]
  simp [h]
theorem low_mask (o : Nat) (ho : o ≤ 20) : wrap64 (shl .i64 1 (o : Int) - 1) = ((2 ^ o - 1 : Nat) : Int) := by
  have hp := Nat.two_pow_pos o
  have hp20 := pow20 ho
  rw [shl_pow o (by omega), wrap64_of (by omega) (by omega)]
  omega
theorem Down_yes (n o : Nat) (h : okA n o) : word_Down.f (n : Int) (o : Int) = some (((n / 2 ^ o * 2 ^ o : Nat) : Int), none) := by
  have h' := h
  obtain ⟨a, b, c, d⟩ := h'
  have h62 : (2 : Nat) ^ 62 = 4611686018427387904 := by decide
  unfold word_Down.f
  rw [may_align]
  simp only [h, decide_true, Option.bind_some, if_true, if_pos c]
  rw [low_mask o (by omega), andNot_low n o (by omega) (by omega)]
theorem Up_yes (n o : Nat) (h : okA n o) : word_Up.f (n : Int) (o : Int) = some ((((n + (2 ^ o - 1)) / 2 ^ o * 2 ^ o : Nat) : Int), none) := by
  have h' := h
  obtain ⟨a, b, c, d⟩ := h'
  have h62 : (2 : Nat) ^ 62 = 4611686018427387904 := by decide
  have hp := Nat.two_pow_pos o
  have hp20 := pow20 (show o ≤ 20 by omega)
  unfold word_Up.f
  rw [may_align]
  simp only [h, decide_true, Option.bind_some, if_true, if_pos c]
  rw [low_mask o (by omega), wrap64_of (by omega) (by omega), ← Int.natCast_add, andNot_low _ o (by omega) (by omega)]

end Go.Proofs.YtobbcfpkmmafnaaDoor.WordLib
