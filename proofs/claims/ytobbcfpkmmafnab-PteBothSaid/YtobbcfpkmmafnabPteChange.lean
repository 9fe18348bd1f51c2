/- What Change and the reference's Change tell. -/
import Derived.Test.YtobbcfpkmmafnabPteUp
import Derived.Test.YtobbcfpkmmafnabQx11
namespace Go.Proofs.Ytobbcfpkmmafnab.PteLib
open Go.RowKit Go.Proofs.YtobbcfpkmmafnabW.PrintWords Go.Proofs.YtobbcfpkmmafnabW.PrintLast Go.Proofs.YtobbcfpkmmafnabW.PrintMore Go.Proofs.Ytobbcfpkmmafnab.Bits Go.Proofs.Ytobbcfpkmmafnab.Ref01 Go.Proofs.Ytobbcfpkmmafnab.Q
set_option linter.unusedVariables false
set_option linter.unusedSimpArgs false

theorem change_no (n : Nat) (hn : 1 ≤ n) (lv a b : Int) (hl : lv < 0 ∨ 3 < lv) : pte_Change.f n lv a b = some (false, some 1) := by
  unfold pte_Change.f
  rw [decode_no n hn lv a hl]
  rfl

def same2 (a b : Dsc) : Bool := a.1 == b.1 && (a.2.1 == b.2.1 && (a.2.2.1 == b.2.2.1 && (a.2.2.2.1 == b.2.2.2.1 && (a.2.2.2.2.2.1 == b.2.2.2.2.2.1))))
def changeB (a b : Dsc) (x y : Int) : Bool := if x = y ∨ x % 2 = 0 ∨ y % 2 = 0 then true else (same2 a b && a.1 != 5)

theorem change_yes (n : Nat) (hn : 3 ≤ n) (lv x y : Int) (h0 : 0 ≤ lv) (h3 : lv ≤ 3) (x0 : 0 ≤ x) (x1 : x < 18446744073709551616) (y0 : 0 ≤ y) (y1 : y < 18446744073709551616) :
    ∃ a b, IsDec lv x a ∧ IsDec lv y b ∧ pte_Change.f n lv x y = some (changeB a b x y, none) := by
  obtain ⟨k, f, wr, ex, se, fo, so, he, hd⟩ := decode_yes n hn lv x h0 h3 x0 x1
  obtain ⟨k', f', wr', ex', se', fo', so', he', hd'⟩ := decode_yes n hn lv y h0 h3 y0 y1
  refine ⟨_, _, hd, hd', ?_⟩
  obtain ⟨n, rfl⟩ : ∃ m, n = m + 1 := ⟨n - 1, by omega⟩
  unfold pte_Change.f changeB
  rw [he, he']
  simp only [Option.bind_some, Option.isNone_none, if_true]
  rw [and1 x x0 x1, and1 y y0 y1]
  simp only [pte_Change.j0, same2]
  by_cases a : x = y
  · simp [a]
  rw [if_neg a]
  by_cases b : x % 2 = 0
  · simp [b]
  rw [if_neg b]
  by_cases c : y % 2 = 0
  · simp [c]
  rw [show (y % 2 == 0) = false by simpa using c, if_neg (by decide), if_neg (show ¬ (x = y ∨ x % 2 = 0 ∨ y % 2 = 0) by omega)]
  by_cases h : (k == k' && (f == f' && (wr == wr' && (ex == ex' && (fo == fo'))))) = true
  · rw [if_pos h, h]; simp
  · rw [if_neg h]; simp only [Bool.not_eq_true] at h; rw [h]; simp

theorem ref_change (n : Nat) (hn : 201 ≤ n) (lv x y : Int) (x0 : 0 ≤ x) (x1 : x < 18446744073709551616) (y0 : 0 ≤ y) (y1 : y < 18446744073709551616) (a b : Dsc) (ha : IsDec lv x a) (hb : IsDec lv y b) :
    paviorref02_Change.f n lv x y = some (changeB a b x y) := by
  obtain ⟨k, f, wr, ex, se, fo, so, he, hd⟩ := refDecode (n - 1) (by omega) lv x x0 x1
  obtain ⟨k', f', wr', ex', se', fo', so', he', hd'⟩ := refDecode (n - 1) (by omega) lv y y0 y1
  have ea := isDec_unique ha hd
  have eb := isDec_unique hb hd'
  subst ea eb
  obtain ⟨n, rfl⟩ : ∃ m, n = m + 1 := ⟨n - 1, by omega⟩
  unfold paviorref02_Change.f changeB
  have hx : Int.tmod x 2 = x % 2 := Int.tmod_eq_emod_of_nonneg x0
  have hy : Int.tmod y 2 = y % 2 := Int.tmod_eq_emod_of_nonneg y0
  rw [hx, hy]
  simp only [paviorref02_Change.j0, same2]
  by_cases a : x = y
  · simp [a]
  rw [if_neg a]
  by_cases b : x % 2 = 0
  · simp [b]
  rw [if_neg b]
  by_cases c : y % 2 = 0
  · simp [c]
  rw [show (y % 2 == 0) = false by simpa using c, if_neg (by decide), if_neg (show ¬ (x = y ∨ x % 2 = 0 ∨ y % 2 = 0) by omega)]
  simp only [Nat.add_sub_cancel] at he he'
  rw [he, he']
  simp only [Option.bind_some]
  by_cases h : (k == k' && (f == f' && (wr == wr' && (ex == ex' && (fo == fo'))))) = true
  · rw [if_pos h, h]; simp
  · rw [if_neg h]; simp only [Bool.not_eq_true] at h; rw [h]; simp

theorem change_sym (a b : Dsc) (x y : Int) : changeB a b x y = changeB b a y x := by
  unfold changeB same2
  by_cases h : x = y ∨ x % 2 = 0 ∨ y % 2 = 0
  · rw [if_pos h, if_pos (by omega)]
  · rw [if_neg h, if_neg (by omega), Bool.eq_iff_iff]
    simp only [Bool.and_eq_true, beq_iff_eq, bne_iff_ne]
    constructor
    · rintro ⟨⟨h1, h2, h3, h4, h5⟩, h6⟩
      exact ⟨⟨h1.symm, h2.symm, h3.symm, h4.symm, h5.symm⟩, by omega⟩
    · rintro ⟨⟨h1, h2, h3, h4, h5⟩, h6⟩
      exact ⟨⟨h1.symm, h2.symm, h3.symm, h4.symm, h5.symm⟩, by omega⟩

end Go.Proofs.Ytobbcfpkmmafnab.PteLib
