/- A number that is aligned is its own Down and Up; else Up is one alignment above Down: the pure statement of WordNear, for every number and order. -/
import Derived.Test.YtobbcfpkmmafnaaDoorWordAlign
import Derived.Test.YtobbcfpkmmafnaaDoorWordRefs
import Derived.Test.YtobbcfpkmmafnaaDoorQx8
namespace Go.Proofs.YtobbcfpkmmafnaaDoor.Pure
open Go.RowKit Go.Proofs.YtobbcfpkmmafnaaDoor.Q Go.Proofs.YtobbcfpkmmafnaaDoorW.PrintWords Go.Proofs.YtobbcfpkmmafnaaDoorW.PrintLast Go.Proofs.YtobbcfpkmmafnaaDoor.WordLib Go.Proofs.YtobbcfpkmmafnaaDoor.Bits
set_option linter.unusedVariables false
set_option linter.unusedSimpArgs false

theorem near_of (n p : Nat) (hp : 0 < p) : (n % p = 0 → n / p * p = n ∧ (n + (p - 1)) / p * p = n) ∧ (n % p ≠ 0 → (n + (p - 1)) / p * p = n / p * p + p) := by
  have h1 := Nat.div_add_mod n p
  rw [Nat.mul_comm] at h1
  have h2 := Nat.mod_lt n hp
  constructor
  · intro h
    have e : n / p * p = n := by omega
    refine ⟨e, ?_⟩
    have : (n + (p - 1)) / p = n / p := by
      rw [← e, Nat.add_comm, Nat.add_mul_div_right _ _ hp, Nat.div_eq_of_lt (show p - 1 < p by omega), Nat.zero_add, Nat.mul_div_cancel _ hp]
    rw [this, e]
  · intro h
    have : (n + (p - 1)) / p = n / p + 1 := by
      have e2 : n + (p - 1) = (n % p - 1) + (n / p + 1) * p := by rw [Nat.add_mul, Nat.one_mul]; omega
      rw [e2, Nat.add_mul_div_right _ _ hp, Nat.div_eq_of_lt (show n % p - 1 < p by omega), Nat.zero_add]
    rw [this, Nat.add_mul, Nat.one_mul]

theorem WordNear : paviorlaw01_WordNear.Pure := by
  intro n o hn ho
  refine Ev.rounds ?_
  unfold paviorlaw01_WordNear.f
  refine Ev.bind up_ev ?_
  by_cases h : okA n o
  · have h' := h
    obtain ⟨a, b, c, d⟩ := h'
    obtain ⟨n, rfl⟩ := Int.eq_ofNat_of_zero_le a
    obtain ⟨o, rfl⟩ := Int.eq_ofNat_of_zero_le c
    have hp := Nat.two_pow_pos o
    have hp20 := pow20 (show o ≤ 20 by omega)
    rw [Down_yes n o h, Up_yes n o h]
    simp only [Option.bind_some, Option.isNone_none, if_true]
    refine ev_succ ?_
    simp only [paviorlaw01_WordNear.j0, Bool.false_eq_true, if_false]
    refine Ev.bind (power_nat o (by omega)) (ev_now (fun k => ?_))
    obtain ⟨e1, e2⟩ := near_of n (2 ^ o) hp
    have m1 : Int.tmod (n : Int) ((2 ^ o : Nat) : Int) = ((n % 2 ^ o : Nat) : Int) := by
      rw [Int.tmod_eq_emod_of_nonneg (by omega)]; rfl
    rw [if_neg (by omega), m1]
    have hle := Nat.div_mul_le_self n (2 ^ o)
    by_cases hz : n % 2 ^ o = 0
    · obtain ⟨f1, f2⟩ := e1 hz
      rw [if_pos (by omega), f1, f2]
      simp
    · rw [if_neg (by omega), e2 hz]
      simp only [if_true]
      rw [wrap64_of (by omega) (by omega), ← Int.natCast_add]
      simp
  · rw [Down_no n o h, Up_no n o h]
    refine ev_succ (ev_now (fun k => ?_))
    simp [paviorlaw01_WordNear.j0]

end Go.Proofs.YtobbcfpkmmafnaaDoor.Pure
