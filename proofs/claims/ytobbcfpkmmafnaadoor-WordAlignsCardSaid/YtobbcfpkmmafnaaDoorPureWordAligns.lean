/- Any number aligned downwards and upwards to any order, or that it may not be: the pure statement of WordAligns, for every number and order. -/
import Derived.Test.YtobbcfpkmmafnaaDoorWordAlign
import Derived.Test.YtobbcfpkmmafnaaDoorWordRefs
import Derived.Test.YtobbcfpkmmafnaaDoorQx8
namespace Go.Proofs.YtobbcfpkmmafnaaDoor.Pure
open Go.RowKit Go.Proofs.YtobbcfpkmmafnaaDoor.Q Go.Proofs.YtobbcfpkmmafnaaDoorW.PrintWords Go.Proofs.YtobbcfpkmmafnaaDoorW.PrintLast Go.Proofs.YtobbcfpkmmafnaaDoor.WordLib Go.Proofs.YtobbcfpkmmafnaaDoor.Bits
set_option linter.unusedVariables false
set_option linter.unusedSimpArgs false

theorem down_up (n p : Nat) (hp : 0 < p) : n / p * p ≤ n ∧ n - n / p * p < p ∧ n ≤ (n + (p - 1)) / p * p ∧ (n + (p - 1)) / p * p - n < p := by
  have h1 := Nat.div_add_mod n p
  have h2 := Nat.mod_lt n hp
  have h3 := Nat.div_add_mod (n + (p - 1)) p
  have h4 := Nat.mod_lt (n + (p - 1)) hp
  rw [Nat.mul_comm] at h1 h3
  omega

theorem WordAligns : paviorlaw01_WordAligns.Pure := by
  intro n o hn ho
  refine Ev.rounds ?_
  unfold paviorlaw01_WordAligns.f
  refine Ev.bind up_ev ?_
  by_cases h : okA n o
  · have h' := h
    obtain ⟨a, b, c, d⟩ := h'
    obtain ⟨n, rfl⟩ := Int.eq_ofNat_of_zero_le a
    obtain ⟨o, rfl⟩ := Int.eq_ofNat_of_zero_le c
    have hp := Nat.two_pow_pos o
    have hp20 := pow20 (show o ≤ 20 by omega)
    rw [Down_yes n o h, Up_yes n o h]
    simp only [Option.bind_some, if_neg (show ¬ (n : Int) < 0 by omega), if_neg (show ¬ (n : Int) > 1099511627776 by omega), if_neg (show ¬ (o : Int) < 0 by omega), show decide ((o : Int) > 20) = false by simp; omega]
    refine ev_succ ?_
    simp only [paviorlaw01_WordAligns.j0, Bool.false_eq_true, if_false, if_true, Option.isNone_none]
    refine Ev.bind (power_nat o (by omega)) (ev_now (fun k => ?_))
    obtain ⟨e1, e2, e3, e4⟩ := down_up n (2 ^ o) hp
    have m1 : Int.tmod ((n / 2 ^ o * 2 ^ o : Nat) : Int) ((2 ^ o : Nat) : Int) = 0 := by
      rw [Int.tmod_eq_emod_of_nonneg (by omega), ← Int.natCast_emod, Nat.mul_mod_left]; rfl
    have m2 : Int.tmod (((n + (2 ^ o - 1)) / 2 ^ o * 2 ^ o : Nat) : Int) ((2 ^ o : Nat) : Int) = 0 := by
      rw [Int.tmod_eq_emod_of_nonneg (by omega), ← Int.natCast_emod, Nat.mul_mod_left]; rfl
    rw [if_neg (by omega), if_pos m1, if_pos m2]
    generalize n / 2 ^ o * 2 ^ o = x at *
    generalize (n + (2 ^ o - 1)) / 2 ^ o * 2 ^ o = y at *
    generalize 2 ^ o = z at *
    rw [if_pos (by omega), wrap64_of (by omega) (by omega), if_pos (by omega), if_pos (by omega), wrap64_of (by omega) (by omega)]
    exact congrArg some (decide_eq_true (by omega))
  · rw [Down_no n o h, Up_no n o h]
    refine ev_succ (ev_now (fun k => ?_))
    simp only [Option.bind_some]
    by_cases h1 : n < 0
    · rw [if_pos h1]; simp [paviorlaw01_WordAligns.j0]
    rw [if_neg h1]
    by_cases h2 : n > 1099511627776
    · rw [if_pos h2]; simp [paviorlaw01_WordAligns.j0]
    rw [if_neg h2]
    by_cases h3 : o < 0
    · rw [if_pos h3]; simp [paviorlaw01_WordAligns.j0]
    rw [if_neg h3, show decide (o > 20) = true from decide_eq_true (by unfold okA at h; omega)]
    simp [paviorlaw01_WordAligns.j0]

end Go.Proofs.YtobbcfpkmmafnaaDoor.Pure
