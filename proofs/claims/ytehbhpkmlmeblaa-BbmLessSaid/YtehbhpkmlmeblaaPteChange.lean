/- What Change and the reference's Change tell. -/
import Derived.Test.YtehbhpkmlmeblaaPteUp
import Derived.Test.YtehbhpkmlmeblaaQx4
namespace Go.Proofs.Ytehbhpkmlmeblaa.PteLib
open Go.RowKit Go.Proofs.YtehbhpkmlmeblaaW.PrintWords Go.Proofs.YtehbhpkmlmeblaaW.PrintLast Go.Proofs.YtehbhpkmlmeblaaW.PrintMore Go.Proofs.Ytehbhpkmlmeblaa.Bits Go.Proofs.Ytehbhpkmlmeblaa.Ref01 Go.Proofs.Ytehbhpkmlmeblaa.Q
set_option linter.unusedVariables false
set_option linter.unusedSimpArgs false

def same2 (a b : Dsc) : Bool := a.1 == b.1 && (a.2.1 == b.2.1 && (a.2.2.1 == b.2.2.1 && (a.2.2.2.1 == b.2.2.2.1 && (a.2.2.2.2.2.1 == b.2.2.2.2.2.1))))
def changeB (a b : Dsc) (x y : Int) : Bool := if x = y ∨ x % 2 = 0 ∨ y % 2 = 0 then true else (same2 a b && a.1 != 5)

theorem change_yes (n : Nat) (hn : 3 ≤ n) (lv x y : Int) (h0 : 0 ≤ lv) (h3 : lv ≤ 3) (x0 : 0 ≤ x) (x1 : x < 18446744073709551616) (y0 : 0 ≤ y) (y1 : y < 18446744073709551616) :
    ∃ a b, IsDec lv x a ∧ IsDec lv y b ∧ pte_Change.f n lv x y = some (changeB a b x y, none) := by
  obtain ⟨k, f, wr, ex, se, fo, so, he, hd⟩ := decode_yes n hn lv x h0 h3 x0 x1
  obtain ⟨k', f', wr', ex', se', fo', so', he', hd'⟩ := decode_yes n hn lv y h0 h3 y0 y1
  refine ⟨_, _, hd, hd', ?_⟩
  obtain ⟨n, rfl⟩ : ∃ m, n = m + 1 := ⟨n - 1, by omega⟩
  unfold pte_Change.f changeB
  rw [he, he']
  simp only [Option.bind_some, Option.isNone_none, if_true]
  rw [and1 x x0 x1, and1 y y0 y1]
  simp only [pte_Change.j0, same2]
  by_cases a : x = y
  · simp [a]
  rw [if_neg a]
  by_cases b : x % 2 = 0
  · simp [b]
  rw [if_neg b]
  by_cases c : y % 2 = 0
  · simp [c]
  rw [show (y % 2 == 0) = false by simpa using c, if_neg (by decide), if_neg (show ¬ (x = y ∨ x % 2 = 0 ∨ y % 2 = 0) by omega)]
  by_cases h : (k == k' && (f == f' && (wr == wr' && (ex == ex' && (fo == fo'))))) = true
  · rw [if_pos h, h]; simp
  · rw [if_neg h]; simp only [Bool.not_eq_true] at h; rw [h]; simp

end Go.Proofs.Ytehbhpkmlmeblaa.PteLib
