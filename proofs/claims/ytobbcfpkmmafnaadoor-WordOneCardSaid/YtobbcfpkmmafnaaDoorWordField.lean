/- Layer 1: what Field and Put compute; the head of the layer's statements is true. -/
import Derived.Test.YtobbcfpkmmafnaaDoorWordCut
import Derived.Test.YtobbcfpkmmafnaaDoorQx2
namespace Go.Proofs.YtobbcfpkmmafnaaDoor.WordLib
open Go.RowKit Go.Proofs.YtobbcfpkmmafnaaDoorW.PrintWords Go.Proofs.YtobbcfpkmmafnaaDoorW.PrintLast Go.Proofs.YtobbcfpkmmafnaaDoorW.PrintMore Go.Proofs.YtobbcfpkmmafnaaDoor.Bits Go.Proofs.YtobbcfpkmmafnaaDoor.Q
set_option linter.unusedVariables false
set_option linter.unusedSimpArgs false

/-- may a field be -/
def okF (at_ n : Int) : Prop := 0 ≤ at_ ∧ at_ ≤ 63 ∧ 1 ≤ n ∧ at_ + n ≤ 64
instance (at_ n : Int) : Decidable (okF at_ n) := by unfold okF; infer_instance
theorem field_ok (at_ n : Int) (h0 : -9223372036854775808 ≤ n) (h1 : n ≤ 9223372036854775807) : word_field.f at_ n = some (decide (okF at_ n)) := by
  unfold word_field.f
  by_cases a : at_ ≥ 0
  · rw [if_pos a]
    by_cases b : at_ < 64
    · rw [if_pos b]
      by_cases c : n ≥ 1
      · rw [if_pos c]
        by_cases d : n ≤ 64
        · rw [if_pos d, wrap64_of (by omega) (by omega)]
          exact congrArg some (decide_eq_decide.mpr (by unfold okF; omega))
        · rw [if_neg d]; exact congrArg some (decide_eq_false (by unfold okF; omega)).symm
      · rw [if_neg c]; exact congrArg some (decide_eq_false (by unfold okF; omega)).symm
    · rw [if_neg b]; exact congrArg some (decide_eq_false (by unfold okF; omega)).symm
  · rw [if_neg a]; exact congrArg some (decide_eq_false (by unfold okF; omega)).symm

theorem mask_ok (n : Nat) (h : n ≤ 64) : word_mask.f (n : Int) = some (((2 ^ n - 1 : Nat)) : Int) := by
  unfold word_mask.f
  rw [if_pos (by omega)]
  congr 1
  unfold shl
  have hm : min ((n : Int)).toNat IntKind.u64.bits = n := by
    have : IntKind.u64.bits = 64 := rfl
    rw [this]; omega
  rw [hm, Int.one_mul, show (2 : Int) ^ n = ((2 ^ n : Nat) : Int) by rw [Int.natCast_pow]; rfl, wrap_u64_eq, wrap_u64_eq]
  have h1 : 2 ^ n ≤ 2 ^ 64 := Nat.pow_le_pow_right (by decide) h
  have h2 : (2 : Nat) ^ 64 = 18446744073709551616 := by decide
  have h3 := Nat.two_pow_pos n
  rw [h2] at h1
  generalize 2 ^ n = z at h1 h3 ⊢
  omega

theorem shr_nat (a i : Nat) (hi : i ≤ 64) : shr .u64 (a : Int) (i : Int) = ((a / 2 ^ i : Nat) : Int) := by
  have hm : min ((i : Int)).toNat IntKind.u64.bits = i := by
    have : IntKind.u64.bits = 64 := rfl
    rw [this]; omega
  unfold shr
  rw [hm, Int.natCast_ediv]; rfl

/-- Field. -/
theorem Field_no (w at_ n : Int) (h0 : -9223372036854775808 ≤ n) (h1 : n ≤ 9223372036854775807) (h : ¬ okF at_ n) : word_Field.f w at_ n = some (0, some 1) := by
  unfold word_Field.f
  rw [field_ok at_ n h0 h1]
  simp [h]
theorem Field_yes (w at_ n : Nat) (hw : w < 2 ^ 64) (h : okF at_ n) : word_Field.f (w : Int) (at_ : Int) (n : Int) = some (((w / 2 ^ at_ % 2 ^ n : Nat) : Int), none) := by
  have h' := h
  obtain ⟨a, b, c, d⟩ := h'
  unfold word_Field.f
  rw [field_ok _ _ (by omega) (by omega)]
  simp only [h, decide_true, Option.bind_some, if_true]
  rw [if_pos a, mask_ok n (by omega)]
  simp only [Option.bind_some]
  have hn64 : 2 ^ n ≤ 2 ^ 64 := Nat.pow_le_pow_right (by decide) (by omega)
  have hp := Nat.two_pow_pos n
  rw [shr_nat w at_ (by omega), and_u64_nat _ _ (Nat.lt_of_le_of_lt (Nat.div_le_self _ _) hw) (by omega), Nat.and_two_pow_sub_one_eq_mod]

/-! ### Put -/
theorem shl_nat (v i : Nat) (hi : i ≤ 64) : shl .u64 (v : Int) (i : Int) = ((v * 2 ^ i % 2 ^ 64 : Nat) : Int) := by
  have hm : min ((i : Int)).toNat IntKind.u64.bits = i := by
    have : IntKind.u64.bits = 64 := rfl
    rw [this]; omega
  unfold shl
  rw [hm, wrap_u64_eq, Int.natCast_emod, Int.natCast_mul, Int.natCast_pow]
  rfl
theorem andNot_u64_nat (a b : Nat) (ha : a < 2 ^ 64) (hb : b < 2 ^ 64) : bits .andNot .u64 (a : Int) (b : Int) = ((a &&& (2 ^ 64 - 1 - b) : Nat) : Int) := by
  have ha' : a % 2 ^ 64 = a := Nat.mod_eq_of_lt ha
  have hb' : b % 2 ^ 64 = b := Nat.mod_eq_of_lt hb
  have e64 : IntKind.u64.bits = 64 := rfl
  have h2 : (2 : Nat) ^ 64 = 18446744073709551616 := by decide
  simp only [bits, e64, BitVec.ofInt_natCast, BitVec.toNat_and, BitVec.toNat_not, BitVec.toNat_ofNat, ha', hb']
  have hlt : a &&& (2 ^ 64 - 1 - b) < 2 ^ 64 := Nat.and_lt_two_pow _ (by omega)
  exact wraps_u64 _ (by omega) (by have := p64; omega)

/-- the number whose bits are w's, but v's in a field -/
def putN (w at_ n v : Nat) : Nat := (w &&& (2 ^ 64 - 1 - (2 ^ n - 1) * 2 ^ at_ % 2 ^ 64)) ||| (v * 2 ^ at_ % 2 ^ 64)
theorem putN_lt (w at_ n v : Nat) (hw : w < 2 ^ 64) : putN w at_ n v < 2 ^ 64 := Nat.or_lt_two_pow (Nat.lt_of_le_of_lt Nat.and_le_left hw) (Nat.mod_lt _ (Nat.two_pow_pos _))
theorem putN_bit (w at_ n v : Nat) (hw : w < 2 ^ 64) (hn : at_ + n ≤ 64) (hv : v < 2 ^ n) (i : Nat) (hi : i < 64) :
    (putN w at_ n v).testBit i = (if at_ ≤ i ∧ i < at_ + n then v.testBit (i - at_) else w.testBit i) := by
  unfold putN
  have hm : (2 ^ n - 1) * 2 ^ at_ < 2 ^ 64 := by
    have h1 : (2 ^ n - 1) * 2 ^ at_ < 2 ^ n * 2 ^ at_ := Nat.mul_lt_mul_of_pos_right (by have := Nat.two_pow_pos n; omega) (Nat.two_pow_pos _)
    have h2 : 2 ^ n * 2 ^ at_ ≤ 2 ^ 64 := by rw [← Nat.pow_add]; exact Nat.pow_le_pow_right (by decide) (by omega)
    omega
  have hv2 : v * 2 ^ at_ < 2 ^ 64 := by
    have h1 : v * 2 ^ at_ < 2 ^ n * 2 ^ at_ := Nat.mul_lt_mul_of_pos_right hv (Nat.two_pow_pos _)
    have h2 : 2 ^ n * 2 ^ at_ ≤ 2 ^ 64 := by rw [← Nat.pow_add]; exact Nat.pow_le_pow_right (by decide) (by omega)
    omega
  rw [Nat.mod_eq_of_lt hm, Nat.mod_eq_of_lt hv2, Nat.testBit_or, Nat.testBit_and]
  have hnb : ∀ j, n ≤ j → v.testBit j = false := fun j hj => Nat.testBit_lt_two_pow (Nat.lt_of_lt_of_le hv (Nat.pow_le_pow_right (by decide) hj))
  have c1 : (2 ^ 64 - 1 - (2 ^ n - 1) * 2 ^ at_).testBit i = !((2 ^ n - 1) * 2 ^ at_).testBit i := by
    have := Nat.testBit_two_pow_sub_succ hm i
    rw [show 2 ^ 64 - ((2 ^ n - 1) * 2 ^ at_ + 1) = 2 ^ 64 - 1 - (2 ^ n - 1) * 2 ^ at_ by omega] at this
    rw [this]; simp [hi]
  rw [c1, show (2 ^ n - 1) * 2 ^ at_ = (2 ^ n - 1) <<< at_ by rw [Nat.shiftLeft_eq], show v * 2 ^ at_ = v <<< at_ by rw [Nat.shiftLeft_eq], Nat.testBit_shiftLeft, Nat.testBit_shiftLeft, Nat.testBit_two_pow_sub_one]
  by_cases a : at_ ≤ i
  · by_cases b : i < at_ + n
    · rw [if_pos ⟨a, b⟩]; simp [a, show i - at_ < n by omega]
    · rw [if_neg (by omega)]; simp [a, show ¬ i - at_ < n by omega, hnb (i - at_) (by omega)]
  · rw [if_neg (by omega)]; simp [a]

theorem Put_no (w at_ n v : Int) (h0 : -9223372036854775808 ≤ n) (h1 : n ≤ 9223372036854775807) (h : ¬ okF at_ n) : word_Put.f w at_ n v = some (0, some 1) := by
  unfold word_Put.f
  rw [field_ok at_ n h0 h1]
  simp [h]
theorem Put_long (w at_ : Int) (n v : Nat) (h : okF at_ n) (hv : ¬ v < 2 ^ n) : word_Put.f w at_ n (v : Int) = some (0, some 8) := by
  have h' := h
  obtain ⟨a, b, c, d⟩ := h'
  unfold word_Put.f
  rw [field_ok _ _ (by omega) (by omega)]
  simp only [h, decide_true, Option.bind_some, if_true]
  rw [mask_ok n (by omega)]
  simp only [Option.bind_some]
  rw [if_pos (by have := Nat.two_pow_pos n; omega)]
theorem Put_yes (w at_ n v : Nat) (hw : w < 2 ^ 64) (h : okF at_ n) (hv : v < 2 ^ n) : word_Put.f (w : Int) (at_ : Int) (n : Int) (v : Int) = some (((putN w at_ n v : Nat) : Int), none) := by
  have h' := h
  obtain ⟨a, b, c, d⟩ := h'
  unfold word_Put.f
  rw [field_ok _ _ (by omega) (by omega)]
  simp only [h, decide_true, Option.bind_some, if_true]
  rw [mask_ok n (by omega)]
  simp only [Option.bind_some]
  have hp := Nat.two_pow_pos n
  rw [if_neg (by omega), if_pos a, shl_nat _ _ (by omega), shl_nat _ _ (by omega), andNot_u64_nat _ _ hw (Nat.mod_lt _ (Nat.two_pow_pos _)), or_u64_nat _ _ (Nat.lt_of_le_of_lt Nat.and_le_left hw) (Nat.mod_lt _ (Nat.two_pow_pos _))]
  rfl

theorem up_ev : Ev (fun k => paviorlaw01_up.f k) true := by
  have h1 : word_Field.f 240 4 4 = some (15, none) := Field_yes 240 4 4 (by decide) (by decide)
  have h2 : word_Put.f 0 60 4 15 = some (17293822569102704640, none) := Put_yes 0 60 4 15 (by decide) (by decide) (by decide)
  have hc : IsCut 3 9 [⟨3, 0⟩, ⟨4, 2⟩, ⟨8, 0⟩] := by
    have o1 : IsOrd 3 9 0 := ⟨by omega, by decide, by decide, fun p hp h1 h2 => by
      rcases Nat.lt_or_ge 0 p with h | h
      · exact absurd (mod_mono (show 1 ≤ p by omega) h1) (by decide)
      · omega⟩
    have o2 : IsOrd 4 9 2 := ⟨by omega, by decide, by decide, fun p hp h1 h2 => by
      rcases Nat.lt_or_ge 2 p with h | h
      · exact absurd (mod_mono (show 3 ≤ p by omega) h1) (by decide)
      · omega⟩
    have o3 : IsOrd 8 9 0 := ⟨by omega, by decide, by decide, fun p hp h1 h2 => by
      rcases Nat.lt_or_ge 0 p with h | h
      · have := Nat.pow_le_pow_right (show 1 ≤ 2 by decide) (show 1 ≤ p by omega)
        omega
      · omega⟩
    exact .cons (by omega) o1 (.cons (by decide) o2 (.cons (by decide) o3 (.nil (by decide))))
  have h3 := cut_ok 3 9 (by omega) (by omega) _ hc
  unfold paviorlaw01_up.f
  simp only [h1, h2, Option.bind_some]
  refine Ev.bind h3 (ev_now (fun k => ?_))
  rfl

end Go.Proofs.YtobbcfpkmmafnaaDoor.WordLib
