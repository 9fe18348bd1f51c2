/- Of which order any number is, or that it is no power of two: the pure statement of WordOrders, for every number. -/
import Derived.Test.YtobbcfpkmmafnaaDoorWordField
import Derived.Test.YtobbcfpkmmafnaaDoorWordRefs
import Derived.Test.YtobbcfpkmmafnaaDoorQx7
namespace Go.Proofs.YtobbcfpkmmafnaaDoor.Pure
open Go.RowKit Go.Proofs.YtobbcfpkmmafnaaDoor.Q Go.Proofs.YtobbcfpkmmafnaaDoorW.PrintWords Go.Proofs.YtobbcfpkmmafnaaDoorW.PrintLast Go.Proofs.YtobbcfpkmmafnaaDoor.WordLib Go.Proofs.YtobbcfpkmmafnaaDoor.Bits
set_option linter.unusedVariables false
set_option linter.unusedSimpArgs false

theorem and_i64_nat (a b : Nat) (ha : a < 2 ^ 63) (hb : b < 2 ^ 63) : bits .and .i64 (a : Int) (b : Int) = ((a &&& b : Nat) : Int) :=
  (bits_nat .i64 63 (by decide) (fun n h0 h1 => by rw [IntKind.wrap_i64]; have : (2 : Int) ^ 63 = 9223372036854775808 := by decide
                                                   omega) a b ha hb).1
theorem and_pred_zero (t : Nat) : 2 ^ t &&& (2 ^ t - 1) = 0 := by
  rw [Nat.and_two_pow_sub_one_eq_mod]; exact Nat.mod_self _
theorem and_pred_pos (t q : Nat) (hq : 0 < q) : 2 ^ t * (2 * q + 1) &&& (2 ^ t * (2 * q + 1) - 1) ≠ 0 := by
  intro h
  obtain ⟨j, hj⟩ := Nat.exists_testBit_of_ne_zero (show q ≠ 0 by omega)
  have hp := Nat.two_pow_pos t
  have e1 : 2 ^ t * (2 * q + 1) = 2 ^ (t + 1) * q + 2 ^ t := by rw [Nat.mul_add, Nat.pow_succ, Nat.mul_one, Nat.mul_assoc]
  have e2 : 2 ^ t * (2 * q + 1) - 1 = 2 ^ (t + 1) * q + (2 ^ t - 1) := by omega
  have hlt : 2 ^ t < 2 ^ (t + 1) := Nat.pow_lt_pow_right (by decide) (by omega)
  have h1 : (2 ^ t * (2 * q + 1)).testBit (t + 1 + j) = true := by
    rw [e1, Nat.testBit_two_pow_mul_add _ hlt]
    rw [if_neg (by omega), show t + 1 + j - (t + 1) = j by omega]; exact hj
  have h2 : (2 ^ t * (2 * q + 1) - 1).testBit (t + 1 + j) = true := by
    rw [e2, Nat.testBit_two_pow_mul_add _ (by omega)]
    rw [if_neg (by omega), show t + 1 + j - (t + 1) = j by omega]; exact hj
  have h3 : (2 ^ t * (2 * q + 1) &&& (2 ^ t * (2 * q + 1) - 1)).testBit (t + 1 + j) = true := by
    rw [Nat.testBit_and, h1, h2]; rfl
  rw [h] at h3
  simp at h3

theorem order_no (n : Int) (h : n < 1) : Ev (fun k => word_Order.f k n) (0, some 1) := by
  refine ev_succ (ev_now (fun k => ?_))
  unfold word_Order.f
  rw [if_pos h]; simp [word_Order.j0]
theorem order_yes (t q : Nat) (hlt : 2 ^ t * (2 * q + 1) < 2 ^ 63) : Ev (fun k => word_Order.f k ((2 ^ t * (2 * q + 1) : Nat) : Int)) (if q = 0 then ((t : Int), none) else (0, some 1)) := by
  have hp := Nat.two_pow_pos t
  have hpos : 0 < 2 ^ t * (2 * q + 1) := Nat.mul_pos hp (by omega)
  have h63 : (2 : Nat) ^ 63 = 9223372036854775808 := by decide
  have h64 : (2 : Nat) ^ 64 = 18446744073709551616 := by decide
  have htz := tz_of t q (by omega)
  have hz : q = 0 → 2 ^ t * (2 * q + 1) &&& (2 ^ t * (2 * q + 1) - 1) = 0 := fun h => by subst h; simp [and_pred_zero]
  have hnz : q ≠ 0 → 2 ^ t * (2 * q + 1) &&& (2 ^ t * (2 * q + 1) - 1) ≠ 0 := fun h => and_pred_pos t q (by omega)
  generalize 2 ^ t * (2 * q + 1) = n at *
  refine ev_succ (ev_now (fun k => ?_))
  unfold word_Order.f
  rw [if_neg (by omega), wrap64_of (n := (n : Int) - 1) (by omega) (by omega), show (n : Int) - 1 = ((n - 1 : Nat) : Int) by omega, and_i64_nat n (n - 1) hlt (by omega)]
  have hw : IntKind.u64.wrap (n : Int) = (n : Int) := by rw [wrap_u64_eq]; omega
  simp only [word_Order.j0, hw, bits_TrailingZeros.f, htz, Option.bind_some]
  by_cases hq : q = 0
  · rw [hz hq]; simp [hq]
  · rw [if_neg hq, if_pos (by have := hnz hq; simp; omega)]

theorem orders_loop (n : Int) (o : Int) (e : Option Int) (r : Bool) (hend : (∀ i : Nat, i < 63 → n ≠ ((2 ^ i : Nat) : Int)) → (o = 0 ∧ e = some 1)) (hhit : ∀ i : Nat, i < 63 → n = ((2 ^ i : Nat) : Int) → e = none ∧ o = (i : Int)) :
    ∀ (d i : Nat), i + d = 63 → (∀ j : Nat, j < i → n ≠ ((2 ^ j : Nat) : Int)) → Ev (fun k => paviorlaw01_WordOrders.l0 k n true o e (i : Int)) true := by
  intro d
  induction d with
  | zero =>
    intro i hi hno
    have e63 : i = 63 := by omega
    subst e63
    obtain ⟨h1, h2⟩ := hend hno
    subst h1 h2
    refine ev_succ (ev_now (fun k => ?_))
    simp only [paviorlaw01_WordOrders.l0]
    rw [if_neg (by decide)]
    simp
  | succ d ih =>
    intro i hi hno
    refine ev_succ ?_
    simp only [paviorlaw01_WordOrders.l0, if_pos (show (i : Int) < 63 by omega)]
    refine Ev.bind (power_nat i (by omega)) ?_
    by_cases hn : n = ((2 ^ i : Nat) : Int)
    · obtain ⟨h1, h2⟩ := hhit i (by omega) hn
      subst h1 h2
      exact ev_now (fun k => by rw [if_pos hn]; simp)
    · refine Ev.congr (fun k => ?_) (ih (i + 1) (by omega) (fun j hj => ?_))
      · rw [if_neg hn, wrap64_of (by omega) (by omega)]; rfl
      · by_cases hji : j = i
        · subst hji; exact hn
        · exact hno j (by omega)

theorem pow_inj {s t : Nat} (h : (2 : Nat) ^ s = 2 ^ t) : s = t := by
  rcases Nat.lt_trichotomy s t with h1 | h1 | h1
  · have := Nat.pow_lt_pow_right (show 1 < 2 by decide) h1; omega
  · exact h1
  · have := Nat.pow_lt_pow_right (show 1 < 2 by decide) h1; omega
theorem WordOrders : paviorlaw01_WordOrders.Pure := by
  intro n hn
  obtain ⟨n0, n1⟩ := wf_i64.mp hn
  refine Ev.rounds ?_
  unfold paviorlaw01_WordOrders.f
  refine Ev.bind up_ev ?_
  by_cases h : n < 1
  · refine Ev.bind (order_no n h) ?_
    exact orders_loop n 0 (some 1) true (fun _ => ⟨rfl, rfl⟩) (fun i _ hi => by have := Nat.two_pow_pos i; omega) 63 0 (by omega) (fun j hj => by omega)
  · obtain ⟨m, rfl⟩ := Int.eq_ofNat_of_zero_le (show 0 ≤ n by omega)
    obtain ⟨t, q, hq⟩ := odd_pow m (by omega)
    have h63 : (2 : Nat) ^ 63 = 9223372036854775808 := by decide
    subst hq
    refine Ev.bind (order_yes t q (by omega)) ?_
    by_cases hq0 : q = 0
    · subst hq0
      simp only [if_true, Nat.mul_zero, Nat.zero_add, Nat.mul_one] at *
      have ht : t < 63 := by
        rcases Nat.lt_or_ge t 63 with h1 | h1
        · exact h1
        · have := Nat.pow_le_pow_right (show 1 ≤ 2 by decide) h1
          omega
      refine orders_loop _ _ _ true (fun hno => absurd rfl (hno t ht)) (fun i hi he => ⟨rfl, ?_⟩) 63 0 (by omega) (fun j hj => by omega)
      have := pow_inj (Int.ofNat.inj he)
      omega
    · simp only [if_neg hq0]
      refine orders_loop _ _ _ true (fun _ => ⟨rfl, rfl⟩) (fun i hi he => ?_) 63 0 (by omega) (fun j hj => by omega)
      exfalso
      have he' : 2 ^ t * (2 * q + 1) = 2 ^ i := Int.ofNat.inj he
      have h1 := (aligned_iff t q i).mp (by rw [he']; exact Nat.mod_self _)
      have h2 : 2 ^ i ≤ 2 ^ t := Nat.pow_le_pow_right (by decide) h1
      have h3 := Nat.two_pow_pos t
      have h4 : 2 ^ t * 3 ≤ 2 ^ t * (2 * q + 1) := Nat.mul_le_mul_left _ (by omega)
      omega

end Go.Proofs.YtobbcfpkmmafnaaDoor.Pure
