/- What the reference's Bit, Field and Put (layer 1) compute, as plain arithmetic. -/
import Derived.Test.YtehbhpkmlmeblaaBits
import Derived.Test.YtehbhpkmlmeblaaQx4
namespace Go.Proofs.Ytehbhpkmlmeblaa.Ref01
open Go.RowKit Go.Proofs.YtehbhpkmlmeblaaW.PrintWords Go.Proofs.YtehbhpkmlmeblaaW.PrintLast Go.Proofs.YtehbhpkmlmeblaaW.PrintMore Go.Proofs.Ytehbhpkmlmeblaa.Bits Go.Proofs.Ytehbhpkmlmeblaa.Q
set_option linter.unusedVariables false
set_option linter.unusedSimpArgs false

theorem shr_u64 (a : Nat) (i : Nat) (hi : i < 64) : shr .u64 (a : Int) (i : Int) = ((a / 2 ^ i : Nat) : Int) := by
  have hm : min ((i : Int)).toNat IntKind.u64.bits = i := by
    have : IntKind.u64.bits = 64 := rfl
    rw [this]; omega
  unfold shr
  rw [hm, Int.natCast_ediv]; rfl

theorem bit_nat (a i : Nat) (ha : a < 2 ^ 64) (hi : i < 64) : paviorref01_Bit.f (a : Int) (i : Int) = some (((a.testBit i).toNat : Nat) : Int) := by
  unfold paviorref01_Bit.f
  rw [if_pos (by omega), shr_u64 a i hi]
  have hd : a / 2 ^ i < 2 ^ 64 := Nat.lt_of_le_of_lt (Nat.div_le_self _ _) ha
  rw [show (1 : Int) = ((1 : Nat) : Int) from rfl, and_u64_nat _ _ hd (by decide)]
  congr 2
  have : a / 2 ^ i &&& 1 = a / 2 ^ i % 2 := Nat.and_one_is_mod _
  rw [this, Nat.testBit_eq_decide_div_mod_eq]
  by_cases h : a / 2 ^ i % 2 = 1
  · simp [h]
  · have : a / 2 ^ i % 2 = 0 := by omega
    simp [this]

theorem bit_step (r j : Nat) : r / 2 ^ j = 2 * (r / 2 ^ (j + 1)) + (r.testBit j).toNat := by
  have h1 : r / 2 ^ (j + 1) = r / 2 ^ j / 2 := by rw [Nat.pow_succ, Nat.div_div_eq_div_mul]
  rw [h1, Nat.testBit_eq_decide_div_mod_eq]
  by_cases h : r / 2 ^ j % 2 = 1
  · simp [h]; omega
  · simp [h]; omega

theorem wrap_u64_nat (n : Nat) (h : n < 2 ^ 64) : IntKind.u64.wrap (n : Int) = (n : Int) := by
  have h2 : (2 : Nat) ^ 64 = 18446744073709551616 := by decide
  have h1 := p64
  exact wraps_u64 _ (by omega) (by omega)
/-- The loop of Put tells any number whose bits are those. -/
theorem put_loop (w v at_ n r : Nat) (hw : w < 2 ^ 64) (hv : v < 2 ^ 64) (hn : at_ + n ≤ 64) (hr : r < 2 ^ 64)
    (hb : ∀ i, i < 64 → r.testBit i = (if at_ ≤ i ∧ i < at_ + n then v.testBit (i - at_) else w.testBit i)) :
    ∀ (d : Nat), d ≤ 64 → ∀ k, 2 * d < k → paviorref01_Put.l0 k (w : Int) (at_ : Int) (n : Int) (v : Int) ((r / 2 ^ d : Nat) : Int) ((d : Int) - 1) = some (r : Int) := by
  intro d
  induction d with
  | zero =>
    intro _ k hk
    obtain ⟨k, rfl⟩ : ∃ m, k = m + 1 := ⟨k - 1, by omega⟩
    simp only [paviorref01_Put.l0]
    rw [if_neg (by omega)]
    simp
  | succ d ih =>
    intro hd k hk
    obtain ⟨k, rfl⟩ : ∃ m, k = m + 1 := ⟨k - 1, by omega⟩
    obtain ⟨k, rfl⟩ : ∃ m, k = m + 1 := ⟨k - 1, by omega⟩
    have hx : ((d + 1 : Nat) : Int) - 1 = (d : Int) := by omega
    rw [hx]
    simp only [paviorref01_Put.l0]
    rw [if_pos (by omega), bit_nat w d hw (by omega)]
    simp only [Option.bind_some]
    have hwr : wrap64 ((at_ : Int) + (n : Int)) = (at_ : Int) + n := wrap64_of (by omega) (by omega)
    have hst := bit_step r d
    have hlt : r / 2 ^ d < 2 ^ 64 := Nat.lt_of_le_of_lt (Nat.div_le_self _ _) hr
    have h64 : (2 : Nat) ^ 64 = 18446744073709551616 := by decide
    have hdn : wrap64 ((d : Int) - 1) = (d : Int) - 1 := wrap64_of (by omega) (by omega)
    have key : ∀ b : Bool, b = r.testBit d → IntKind.u64.wrap (IntKind.u64.wrap (((r / 2 ^ (d + 1) : Nat) : Int) * 2) + ((b.toNat : Nat) : Int)) = ((r / 2 ^ d : Nat) : Int) := by
      intro b hbb
      subst hbb
      rw [show ((r / 2 ^ (d + 1) : Nat) : Int) * 2 = ((r / 2 ^ (d + 1) * 2 : Nat) : Int) by rw [Int.natCast_mul]; rfl, wrap_u64_nat _ (by omega), ← Int.natCast_add, wrap_u64_nat _ (by omega)]
      congr 1; omega
    by_cases hin : at_ ≤ d ∧ d < at_ + n
    · rw [if_pos (by omega), hwr]
      simp only [paviorref01_Put.j1]
      rw [if_pos (by simp; omega), wrap64_of (by omega) (by omega), show (d : Int) - (at_ : Int) = ((d - at_ : Nat) : Int) by omega, bit_nat v _ hv (by omega)]
      simp only [Option.bind_some]
      rw [key _ (by rw [hb d (by omega), if_pos hin]), hdn]
      exact ih (by omega) k (by omega)
    · have hb' : w.testBit d = r.testBit d := by rw [hb d (by omega), if_neg hin]
      by_cases hge : (d : Int) ≥ (at_ : Int)
      · rw [if_pos hge, hwr]
        simp only [paviorref01_Put.j1]
        rw [if_neg (by simp; omega), key _ hb', hdn]
        exact ih (by omega) k (by omega)
      · rw [if_neg hge]
        simp only [paviorref01_Put.j1]
        rw [if_neg (by simp), key _ hb', hdn]
        exact ih (by omega) k (by omega)

theorem put_of (w v at_ n r : Nat) (hw : w < 2 ^ 64) (hv : v < 2 ^ 64) (hn : at_ + n ≤ 64) (hr : r < 2 ^ 64)
    (hb : ∀ i, i < 64 → r.testBit i = (if at_ ≤ i ∧ i < at_ + n then v.testBit (i - at_) else w.testBit i)) (k : Nat) (hk : 129 ≤ k) :
    paviorref01_Put.f k (w : Int) (at_ : Int) (n : Int) (v : Int) = some (r : Int) := by
  have h := put_loop w v at_ n r hw hv hn hr hb 64 (by omega) k (by omega)
  have h0 : r / 2 ^ 64 = 0 := Nat.div_eq_of_lt hr
  rw [h0] at h
  exact h

/-- A number put where nothing stands is added. -/
theorem put_add (w v : Int) (at_ n : Nat) (hw0 : 0 ≤ w) (hw : w < 18446744073709551616) (hv0 : 0 ≤ v) (hv : v < ((2 ^ n : Nat) : Int)) (hn : at_ + n ≤ 64) (hz : w / ((2 ^ at_ : Nat) : Int) % ((2 ^ n : Nat) : Int) = 0) (k : Nat) (hk : 129 ≤ k) :
    paviorref01_Put.f k w (at_ : Int) (n : Int) v = some (w + v * ((2 ^ at_ : Nat) : Int)) := by
  obtain ⟨a, rfl⟩ := Int.eq_ofNat_of_zero_le hw0
  obtain ⟨b, rfl⟩ := Int.eq_ofNat_of_zero_le hv0
  have ha := natlt hw
  have hb : b < 2 ^ n := by exact_mod_cast hv
  have hn64 : 2 ^ n ≤ 2 ^ 64 := Nat.pow_le_pow_right (by decide) (by omega)
  have hz' : a / 2 ^ at_ % 2 ^ n = 0 := by
    have h1 : (((a / 2 ^ at_ % 2 ^ n : Nat)) : Int) = 0 := by rw [Int.natCast_emod, Int.natCast_ediv]; exact hz
    omega
  have hbit : ∀ j, j < n → a.testBit (at_ + j) = false := by
    intro j hj
    have h1 : (a / 2 ^ at_ % 2 ^ n).testBit j = false := by rw [hz']; simp
    rw [Nat.testBit_mod_two_pow, Nat.testBit_div_two_pow] at h1
    simpa [hj, Nat.add_comm] using h1
  have hc : b * 2 ^ at_ < 2 ^ 64 := by
    have h1 : b * 2 ^ at_ < 2 ^ n * 2 ^ at_ := Nat.mul_lt_mul_of_pos_right hb (Nat.two_pow_pos _)
    have h2 : 2 ^ n * 2 ^ at_ ≤ 2 ^ 64 := by rw [← Nat.pow_add]; exact Nat.pow_le_pow_right (by decide) (by omega)
    omega
  have hbt : ∀ i, (b * 2 ^ at_).testBit i = (decide (at_ ≤ i) && b.testBit (i - at_)) := by
    intro i
    rw [show b * 2 ^ at_ = b <<< at_ from (Nat.shiftLeft_eq b at_).symm, Nat.testBit_shiftLeft]
  have hbn : ∀ j, n ≤ j → b.testBit j = false := fun j hj => Nat.testBit_lt_two_pow (Nat.lt_of_lt_of_le hb (Nat.pow_le_pow_right (by decide) hj))
  have hand : a &&& (b * 2 ^ at_) = 0 := by
    apply Nat.eq_of_testBit_eq
    intro i
    rw [Nat.testBit_and, hbt, Nat.zero_testBit]
    by_cases h1 : at_ ≤ i
    · by_cases h2 : i - at_ < n
      · have := hbit (i - at_) h2
        rw [show at_ + (i - at_) = i by omega] at this
        simp [this]
      · simp [hbn (i - at_) (by omega)]
    · simp [h1]
  have hor := nat_or_add a _ ha hc hand
  have hlt : a + b * 2 ^ at_ < 2 ^ 64 := hor ▸ Nat.or_lt_two_pow ha hc
  have h := put_of a b at_ n (a + b * 2 ^ at_) ha (Nat.lt_of_lt_of_le hb hn64) hn hlt (by
    intro i hi
    rw [← hor, Nat.testBit_or, hbt]
    by_cases h1 : at_ ≤ i
    · by_cases h2 : i < at_ + n
      · have := hbit (i - at_) (by omega)
        rw [show at_ + (i - at_) = i by omega] at this
        rw [if_pos ⟨h1, h2⟩, this]; simp [h1]
      · rw [if_neg (by omega), hbn (i - at_) (by omega)]; simp
    · rw [if_neg (by omega)]; simp [h1]) k hk
  rw [h, Int.natCast_add, Int.natCast_mul]

end Go.Proofs.Ytehbhpkmlmeblaa.Ref01
