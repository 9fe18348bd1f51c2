/- Layer 1: what Field, Put, Cut, Order, Down and Up compute, and what is known of bit lengths and trailing zeros. -/
import Derived.Test.YtobbcfpkmmafnaaDoorBits
import Derived.Test.YtobbcfpkmmafnaaDoorQx2
namespace Go.Proofs.YtobbcfpkmmafnaaDoor.WordLib
open Go.RowKit Go.Proofs.YtobbcfpkmmafnaaDoorW.PrintWords Go.Proofs.YtobbcfpkmmafnaaDoorW.PrintLast Go.Proofs.YtobbcfpkmmafnaaDoorW.PrintMore Go.Proofs.YtobbcfpkmmafnaaDoor.Bits Go.Proofs.YtobbcfpkmmafnaaDoor.Q
set_option linter.unusedVariables false
set_option linter.unusedSimpArgs false

/-! ### trailing zeros -/
theorem tz_pow : ∀ t : Fin 64, (∀ o : Fin 64, (2 ^ t.val * 285870213051353865 % 18446744073709551616 / 288230376151711744 = o.val → tab64.getD o.val 0 = (t.val : Int)) ∧ 2 ^ t.val * 285870213051353865 % 18446744073709551616 / 288230376151711744 < 64) := by decide +kernel

/-- the lowest bit of a number that is an odd one times a power -/
theorem low_bit (t q : Nat) (h : 2 ^ t * (2 * q + 1) < 2 ^ 64) : (2 ^ t * (2 * q + 1)) &&& (2 ^ 64 - 2 ^ t * (2 * q + 1)) = 2 ^ t := by
  have ht : t < 64 := by
    rcases Nat.lt_or_ge t 64 with h1 | h1
    · exact h1
    · have := Nat.pow_le_pow_right (show 1 ≤ 2 by decide) h1
      have : 2 ^ t * 1 ≤ 2 ^ t * (2 * q + 1) := Nat.mul_le_mul_left _ (by omega)
      omega
  have hp := Nat.two_pow_pos t
  -- the complement: 2^t * (2 * q' + 1) with q' = 2^(63-t) - 1 - q
  have h64 : 2 ^ 64 = 2 ^ t * (2 * 2 ^ (63 - t)) := by
    rw [← Nat.pow_succ', ← Nat.pow_add]; congr 1; omega
  have hq : 2 * q + 1 < 2 * 2 ^ (63 - t) := by
    rw [h64] at h
    exact Nat.lt_of_mul_lt_mul_left h
  have hc : 2 ^ 64 - 2 ^ t * (2 * q + 1) = 2 ^ t * (2 * (2 ^ (63 - t) - 1 - q) + 1) := by
    rw [h64, ← Nat.mul_sub]
    congr 1
    omega
  rw [hc]
  apply Nat.eq_of_testBit_eq
  intro i
  rw [Nat.testBit_and, show 2 ^ t * (2 * q + 1) = (2 * q + 1) <<< t by rw [Nat.shiftLeft_eq, Nat.mul_comm], show 2 ^ t * (2 * (2 ^ (63 - t) - 1 - q) + 1) = (2 * (2 ^ (63 - t) - 1 - q) + 1) <<< t by rw [Nat.shiftLeft_eq, Nat.mul_comm], Nat.testBit_shiftLeft, Nat.testBit_shiftLeft, Nat.testBit_two_pow]
  by_cases h1 : t ≤ i
  · simp only [h1, decide_true, Bool.true_and]
    by_cases h2 : i = t
    · subst h2
      simp
    · obtain ⟨j, hj⟩ : ∃ j, i - t = j + 1 := ⟨i - t - 1, by omega⟩
      have e : decide (t = i) = false := by simp; omega
      rw [hj, e, Nat.testBit_succ, Nat.testBit_succ, show (2 * q + 1) / 2 = q by omega, show (2 * (2 ^ (63 - t) - 1 - q) + 1) / 2 = 2 ^ (63 - t) - 1 - q by omega]
      have hlt : q < 2 ^ (63 - t) := by omega
      have := Nat.testBit_two_pow_sub_succ hlt j
      rw [show 2 ^ (63 - t) - (q + 1) = 2 ^ (63 - t) - 1 - q by omega] at this
      rw [this]
      cases Nat.testBit q j <;> simp
  · have e : decide (t = i) = false := by simp; omega
    simp [h1, e]

theorem tz_of (t q : Nat) (h : 2 ^ t * (2 * q + 1) < 2 ^ 64) : bits_TrailingZeros64.f ((2 ^ t * (2 * q + 1) : Nat) : Int) = some (t : Int) := by
  have ht : t < 64 := by
    rcases Nat.lt_or_ge t 64 with h1 | h1
    · exact h1
    · have := Nat.pow_le_pow_right (show 1 ≤ 2 by decide) h1
      have : 2 ^ t * 1 ≤ 2 ^ t * (2 * q + 1) := Nat.mul_le_mul_left _ (by omega)
      omega
  have hp := Nat.two_pow_pos t
  have hpos : 0 < 2 ^ t * (2 * q + 1) := Nat.mul_pos hp (by omega)
  have h64 : (2 : Nat) ^ 64 = 18446744073709551616 := by decide
  generalize ha : 2 ^ t * (2 * q + 1) = a at h hpos ⊢
  have hneg : IntKind.u64.wrap (-(a : Int)) = ((2 ^ 64 - a : Nat) : Int) := by
    rw [wrap_u64_eq]
    omega
  have hand : bits .and .u64 (a : Int) (IntKind.u64.wrap (-(a : Int))) = ((2 ^ t : Nat) : Int) := by
    rw [hneg, and_u64_nat _ _ h (by omega)]
    congr 1
    rw [← ha]
    exact low_bit t q (by rw [ha]; exact h)
  have hidx : bits_TrailingZeros64.idx (a : Int) = ((2 ^ t * 285870213051353865 % 18446744073709551616 / 288230376151711744 : Nat) : Int) := by
    unfold bits_TrailingZeros64.idx
    rw [hand, wrap_u64_eq]
    rw [Int.natCast_ediv, Int.natCast_emod, Int.natCast_mul]
    rfl
  have h1 := fun o : Fin 64 => (tz_pow ⟨t, ht⟩ o).1
  have h2 := (tz_pow ⟨t, ht⟩ ⟨0, by decide⟩).2
  simp only at h1 h2
  generalize 2 ^ t * 285870213051353865 % 18446744073709551616 / 288230376151711744 = o at hidx h1 h2
  have h3 : tab64.getD o 0 = (t : Int) := h1 ⟨o, h2⟩ rfl
  clear h1 hand hneg ha h64 hp
  unfold bits_TrailingZeros64.f
  rw [if_neg (by omega), hidx, if_pos (by omega), if_pos (by omega)]
  unfold rd
  rw [Int.toNat_natCast, h3, wrap64_of (by omega) (by omega)]

/-- any number above 0 is an odd one times a power -/
theorem odd_pow (n : Nat) (h : 0 < n) : ∃ t q, n = 2 ^ t * (2 * q + 1) := by
  induction n using Nat.strongRecOn with
  | _ n ih =>
    by_cases ho : n % 2 = 1
    · exact ⟨0, n / 2, by omega⟩
    · obtain ⟨t, q, hq⟩ := ih (n / 2) (by omega) (by omega)
      refine ⟨t + 1, q, ?_⟩
      rw [Nat.pow_succ, Nat.mul_comm (2 ^ t) 2, Nat.mul_assoc, ← hq]
      omega

/-- which orders a number is aligned to -/
theorem aligned_iff (t q o : Nat) : 2 ^ t * (2 * q + 1) % 2 ^ o = 0 ↔ o ≤ t := by
  constructor
  · intro h
    rcases Nat.lt_or_ge t o with h1 | h1
    · exfalso
      have hd : 2 ^ (t + 1) ∣ 2 ^ t * (2 * q + 1) := Nat.dvd_trans (Nat.pow_dvd_pow 2 h1) (Nat.dvd_of_mod_eq_zero h)
      rw [Nat.pow_succ] at hd
      have := Nat.dvd_of_mul_dvd_mul_left (Nat.two_pow_pos t) hd
      omega
    · exact h1
  · intro h
    have : 2 ^ o ∣ 2 ^ t * (2 * q + 1) := Nat.dvd_trans (Nat.pow_dvd_pow 2 h) (Nat.dvd_mul_right _ _)
    exact Nat.mod_eq_zero_of_dvd this

/-! ### bit lengths -/
theorem bitLen_ge (n k : Nat) (hn : n < 2 ^ 64) (h : Lib.bitLen n ≤ k) : n < 2 ^ k := by
  rcases Nat.lt_or_ge n (2 ^ k) with h1 | h1
  · exact h1
  · exfalso
    rcases Nat.lt_or_ge k 64 with h2 | h2
    · have e := Lib.bitLen_shift k n h1 hn
      have hpos : 1 ≤ n / 2 ^ k := (Nat.le_div_iff_mul_le (Nat.two_pow_pos k)).mpr (by omega)
      have hne : n / 2 ^ k ≠ 0 := by omega
      have := Lib.bitLen_half (n / 2 ^ k) hne (Nat.lt_of_le_of_lt (Nat.div_le_self _ _) hn)
      omega
    · have := Nat.pow_le_pow_right (show 1 ≤ 2 by decide) h2
      omega
/-- the length's last bit: 2^o ≤ n just where o is below the length -/
theorem bitLen_iff (n o : Nat) (hn : n < 2 ^ 64) (ho : o ≤ 63) : 2 ^ o ≤ n ↔ o + 1 ≤ Lib.bitLen n := by
  constructor
  · intro h
    rcases Nat.lt_or_ge (Lib.bitLen n) (o + 1) with h1 | h1
    · have := bitLen_ge n o hn (by omega)
      omega
    · exact h1
  · intro h
    rcases Nat.lt_or_ge n (2 ^ o) with h1 | h1
    · have := Lib.bitLen_le n o (by omega) h1
      omega
    · exact h1

/-! ### Cut -/
/-- The order of the greatest run that begins at a and ends by b: the greatest o ≤ 20 such that a is aligned to it and the run ends by b. -/
def IsOrd (a b o : Nat) : Prop := o ≤ 20 ∧ a % 2 ^ o = 0 ∧ a + 2 ^ o ≤ b ∧ (∀ p, p ≤ 20 → a % 2 ^ p = 0 → a + 2 ^ p ≤ b → p ≤ o)
theorem isOrd_unique {a b o p : Nat} (h1 : IsOrd a b o) (h2 : IsOrd a b p) : o = p := by
  obtain ⟨a1, a2, a3, a4⟩ := h1
  obtain ⟨b1, b2, b3, b4⟩ := h2
  have := a4 p b1 b2 b3
  have := b4 o a1 a2 a3
  omega
theorem isOrd_ex (a b : Nat) (h : a < b) : ∃ o, IsOrd a b o := by
  have key : ∀ n, n ≤ 20 → ∃ o, o ≤ n ∧ a % 2 ^ o = 0 ∧ a + 2 ^ o ≤ b ∧ (∀ p, p ≤ n → a % 2 ^ p = 0 → a + 2 ^ p ≤ b → p ≤ o) := by
    intro n
    induction n with
    | zero => intro _; exact ⟨0, by omega, by simp [Nat.mod_one], by simp; omega, fun p hp _ _ => hp⟩
    | succ n ih =>
      intro hn
      obtain ⟨o, h1, h2, h3, h4⟩ := ih (by omega)
      by_cases c : a % 2 ^ (n + 1) = 0 ∧ a + 2 ^ (n + 1) ≤ b
      · exact ⟨n + 1, by omega, c.1, c.2, fun p hp _ _ => hp⟩
      · refine ⟨o, by omega, h2, h3, fun p hp e1 e2 => ?_⟩
        by_cases hp' : p = n + 1
        · subst hp'; exact absurd ⟨e1, e2⟩ c
        · exact h4 p (by omega) e1 e2
  obtain ⟨o, h1, h2, h3, h4⟩ := key 20 (by omega)
  exact ⟨o, h1, h2, h3, h4⟩
/-- an alignment to an order is one to every lesser order -/
theorem mod_mono {a o p : Nat} (h : p ≤ o) (ha : a % 2 ^ o = 0) : a % 2 ^ p = 0 :=
  Nat.mod_eq_zero_of_dvd (Nat.dvd_trans (Nat.pow_dvd_pow 2 h) (Nat.dvd_of_mod_eq_zero ha))

theorem tz_zero : bits_TrailingZeros64.f 0 = some 64 := by unfold bits_TrailingZeros64.f; rw [if_pos rfl]

theorem mn_eq (a b : Int) : mn a b = min a b := by unfold mn; omega
/-- the program's order is that order -/
theorem ord_of (a b : Nat) (h : a < b) (hb : b ≤ 1048576) : ∃ t l : Int, bits_TrailingZeros.f (IntKind.u64.wrap (a : Int)) = some t ∧ bits_Len.f (IntKind.u64.wrap (wrap64 ((b : Int) - (a : Int)))) = some l ∧ ∃ o : Nat, mn (mn t (wrap64 (l - 1))) 20 = (o : Int) ∧ IsOrd a b o := by
  have h64 : (2 : Nat) ^ 64 = 18446744073709551616 := by decide
  have hwa : IntKind.u64.wrap (a : Int) = (a : Int) := by rw [wrap_u64_eq]; omega
  have hwb : IntKind.u64.wrap (wrap64 ((b : Int) - (a : Int))) = ((b - a : Nat) : Int) := by rw [wrap64_of (by omega) (by omega), wrap_u64_eq]; omega
  have hlen : bits_Len.f ((b - a : Nat) : Int) = some ((Lib.bitLen (b - a) : Nat) : Int) := by
    unfold bits_Len.f bits_Len64.f
    rw [if_pos (by omega), if_pos (by omega)]
    simp
  obtain ⟨o, ho⟩ := isOrd_ex a b h
  have hl1 : 1 ≤ Lib.bitLen (b - a) := (bitLen_iff (b - a) 0 (by omega) (by omega)).mp (by simp; omega)
  have hl2 : Lib.bitLen (b - a) ≤ 64 := Lib.bitLen_le (b - a) 64 (by omega) (by omega)
  have hlast : ∀ p, p ≤ 63 → (a + 2 ^ p ≤ b ↔ p ≤ Lib.bitLen (b - a) - 1) := by
    intro p hp
    have := bitLen_iff (b - a) p (by omega) hp
    omega
  obtain ⟨t, ht, hal⟩ : ∃ t : Nat, bits_TrailingZeros.f (a : Int) = some (t : Int) ∧ ∀ p, p ≤ 20 → (a % 2 ^ p = 0 ↔ p ≤ t) := by
    unfold bits_TrailingZeros.f
    by_cases ha : a = 0
    · subst ha
      refine ⟨64, by rw [show ((0 : Nat) : Int) = 0 from rfl, tz_zero]; rfl, fun p hp => ⟨fun _ => by omega, fun _ => by simp⟩⟩
    · obtain ⟨t, q, hq⟩ := odd_pow a (by omega)
      refine ⟨t, ?_, fun p hp => by rw [hq]; exact aligned_iff t q p⟩
      have := tz_of t q (by rw [← hq]; omega)
      rw [← hq] at this
      rw [this]; rfl
  refine ⟨t, _, by rw [hwa]; exact ht, by rw [hwb]; exact hlen, min (min t (Lib.bitLen (b - a) - 1)) 20, ?_, ?_⟩
  · rw [mn_eq, mn_eq, wrap64_of (by omega) (by omega)]
    omega
  · have hm : min (min t (Lib.bitLen (b - a) - 1)) 20 ≤ 20 := by omega
    refine ⟨hm, (hal _ hm).mpr (by omega), (hlast _ (by omega)).mpr (by omega), fun p hp h1 h2 => ?_⟩
    have := (hal p hp).mp h1
    have := (hlast p (by omega)).mp h2
    omega

end Go.Proofs.YtobbcfpkmmafnaaDoor.WordLib
