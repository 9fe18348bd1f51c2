import Derived.Test.YtehbhpkmlmeblaaB2
import Derived.Test.YtehbhpkmlmeblaaPteChange
namespace Go.Proofs.Ytehbhpkmlmeblaa.V
open Go Go.RowKit Go.Proofs Go.Proofs.Ytehbhpkmlmeblaa.Q Go.Proofs.Ytehbhpkmlmeblaa.PteLib Go.Proofs.YtehbhpkmlmeblaaW.PrintWords Go.Proofs.Ytehbhpkmlmeblaa.Bits
set_option linter.unusedVariables false
set_option linter.unusedSimpArgs false
set_option maxRecDepth 100000
theorem up_true : up.f 1000 = some true := by kernel_rfl
theorem bitI_and (k : IntKind) (x y : Int) : bitI .and k x y = Go.bits .and k x y := rfl
def many (lv : Int) : Int := if lv = 0 then 512 else if lv = 1 then 64 else if lv = 2 then 8 else 1
theorem many_999_0 : paviorref06_Many.f 999 0 = some (many 0) := by kernel_rfl
theorem many_999_1 : paviorref06_Many.f 999 1 = some (many 1) := by kernel_rfl
theorem many_999_2 : paviorref06_Many.f 999 2 = some (many 2) := by kernel_rfl
theorem many_999_3 : paviorref06_Many.f 999 3 = some (many 3) := by kernel_rfl
theorem many_1000_0 : paviorref06_Many.f 1000 0 = some (many 0) := by kernel_rfl
theorem many_1000_1 : paviorref06_Many.f 1000 1 = some (many 1) := by kernel_rfl
theorem many_1000_2 : paviorref06_Many.f 1000 2 = some (many 2) := by kernel_rfl
theorem many_1000_3 : paviorref06_Many.f 1000 3 = some (many 3) := by kernel_rfl
theorem many_of {lv : Int} (h0 : 0 ≤ lv) (h3 : lv ≤ 3) : paviorref06_Many.f 1000 lv = some (many lv) := by
  have : lv = 0 ∨ lv = 1 ∨ lv = 2 ∨ lv = 3 := by omega
  rcases this with rfl | rfl | rfl | rfl
  · exact many_1000_0
  · exact many_1000_1
  · exact many_1000_2
  · exact many_1000_3
theorem many_pos {lv : Int} : 0 < many lv := by unfold many; repeat' split; all_goals omega
structure MayP (a b c d e : Int) : Prop where
  a0 : 0 ≤ a
  a1 : a ≤ 255
  b0 : 0 ≤ b
  b1 : b ≤ 3
  c0 : 0 ≤ c
  c1 : c < 512
  d0 : 0 ≤ d
  d1 : d ≤ 7
  e0 : 0 ≤ e
  e1 : e ≤ 4095
  al : e % many b = 0
theorem ref_may (a b c d e : Int) : ∃ m, paviorref06_May.f 1000 a b c d e = some m ∧ (m = true → MayP a b c d e) := by
  unfold paviorref06_May.f
  have hno : paviorref06_May.j0 1000 b e true = some false := rfl
  by_cases h1 : a < 0
  · exact ⟨false, by rw [if_pos h1, hno], by simp⟩
  rw [if_neg h1]
  by_cases h2 : a > 255
  · exact ⟨false, by rw [if_pos h2, hno], by simp⟩
  rw [if_neg h2]
  by_cases h3 : b < 0
  · exact ⟨false, by rw [if_pos h3, hno], by simp⟩
  rw [if_neg h3]
  by_cases h4 : b > 3
  · exact ⟨false, by rw [if_pos h4, hno], by simp⟩
  rw [if_neg h4]
  by_cases h5 : c < 0
  · exact ⟨false, by rw [if_pos h5, hno], by simp⟩
  rw [if_neg h5]
  by_cases h6 : c ≥ 512
  · exact ⟨false, by rw [if_pos h6, hno], by simp⟩
  rw [if_neg h6]
  by_cases h7 : d < 0
  · exact ⟨false, by rw [if_pos h7, hno], by simp⟩
  rw [if_neg h7]
  by_cases h8 : d > 7
  · exact ⟨false, by rw [if_pos h8, hno], by simp⟩
  rw [if_neg h8]
  by_cases h9 : e < 0
  · exact ⟨false, by rw [if_pos h9, hno], by simp⟩
  rw [if_neg h9]
  by_cases h10 : e > 4095
  · exact ⟨false, by rw [decide_eq_true h10, hno], by simp⟩
  rw [decide_eq_false h10]
  have hj : paviorref06_May.j0 1000 b e false = some ((Int.tmod e (many b)) == 0) := by
    show (if false = true then some false else ((paviorref06_Many.f 999 b).bind fun t207 => (if t207 = 0 then none else some ((Int.tmod e t207) == 0)))) = _
    have hm : paviorref06_Many.f 999 b = some (many b) := by
      have : b = 0 ∨ b = 1 ∨ b = 2 ∨ b = 3 := by omega
      rcases this with rfl | rfl | rfl | rfl
      · exact many_999_0
      · exact many_999_1
      · exact many_999_2
      · exact many_999_3
    rw [if_neg (by simp), hm]
    have := @many_pos b
    simp only [Option.bind_some]
    rw [if_neg (by omega)]
  refine ⟨_, hj, fun hm => ?_⟩
  rw [beq_iff_eq, Int.tmod_eq_emod_of_nonneg (by omega)] at hm
  exact ⟨by omega, by omega, by omega, by omega, by omega, by omega, by omega, by omega, by omega, by omega, hm⟩
theorem down_all : ((List.range 4096).all fun e => [0, 1, 2, 3].all fun b => (e % (many (b : Nat)).toNat != 0) || bbm_may.j0 1000 (b : Nat) e false == some true) = true := by kernel_rfl
theorem own_may {a b c d e : Int} (h : MayP a b c d e) : bbm_may.f 1000 a b c d e = some true := by
  obtain ⟨a0, a1, b0, b1, c0, c1, d0, d1, e0, e1, al⟩ := h
  unfold bbm_may.f
  rw [if_neg (by omega), if_neg (by omega), if_neg (by omega), if_neg (by omega), if_neg (by omega), if_neg (by omega), if_neg (by omega), decide_eq_false (by omega)]
  obtain ⟨n, rfl⟩ := Int.eq_ofNat_of_zero_le e0
  obtain ⟨q, rfl⟩ := Int.eq_ofNat_of_zero_le b0
  have h1 := List.all_eq_true.mp down_all n (List.mem_range.mpr (by omega))
  have h2 := List.all_eq_true.mp h1 q (by have : q = 0 ∨ q = 1 ∨ q = 2 ∨ q = 3 := by omega
                                          rcases this with rfl | rfl | rfl | rfl <;> simp)
  simp only [Bool.or_eq_true, bne_iff_ne, ne_eq, beq_iff_eq] at h2
  refine h2.resolve_left (fun h => h ?_)
  have hp : 0 < many (q : Int) := many_pos
  obtain ⟨m, hm⟩ := Int.eq_ofNat_of_zero_le (Int.le_of_lt hp)
  rw [hm] at al ⊢
  simp only [Int.toNat_natCast]
  omega
theorem change_l {lv x : Int} (h0 : 0 ≤ lv) (h3 : lv ≤ 3) (x0 : 0 ≤ x) (x1 : x < 18446744073709551616) : pte_Change.f 1000 lv x 0 = some (true, none) := by
  obtain ⟨a, b, _, _, h⟩ := change_yes 1000 (by omega) lv x 0 h0 h3 x0 x1 (by omega) (by omega)
  rw [h]; simp [changeB]
theorem change_r {lv x : Int} (h0 : 0 ≤ lv) (h3 : lv ≤ 3) (x0 : 0 ≤ x) (x1 : x < 18446744073709551616) : pte_Change.f 1000 lv 0 x = some (true, none) := by
  obtain ⟨a, b, _, _, h⟩ := change_yes 1000 (by omega) lv 0 x h0 h3 (by omega) (by omega) x0 x1
  rw [h]; simp [changeB]
end Go.Proofs.Ytehbhpkmlmeblaa.V
