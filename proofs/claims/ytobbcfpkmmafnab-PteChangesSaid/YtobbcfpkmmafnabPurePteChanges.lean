/- Whether any word may become any other one in one write is what the document's reference says: the pure statement of PteChanges, for every level and two words. -/
import Derived.Test.YtobbcfpkmmafnabPteChange
import Derived.Test.YtobbcfpkmmafnabQx11
namespace Go.Proofs.Ytobbcfpkmmafnab.Pure
open Go.RowKit Go.Proofs.Ytobbcfpkmmafnab.Q Go.Proofs.YtobbcfpkmmafnabW.PrintWords Go.Proofs.YtobbcfpkmmafnabW.PrintLast Go.Proofs.Ytobbcfpkmmafnab.PteLib Go.Proofs.Ytobbcfpkmmafnab.Bits
set_option linter.unusedVariables false
set_option linter.unusedSimpArgs false

theorem PteChanges : paviorlaw02_PteChanges.Pure := by
  intro lv x y hlv hx hy
  obtain ⟨x0, x1⟩ := wf_u64.mp hx
  obtain ⟨y0, y1⟩ := wf_u64.mp hy
  refine ⟨202, ?_⟩
  unfold paviorlaw02_PteChanges.f
  rw [up_true 202 (by omega)]
  simp only [Option.bind_some]
  by_cases hl : lv < 0 ∨ 3 < lv
  · rw [change_no 202 (by omega) lv x y hl]
    simp only [Option.bind_some]
    by_cases a : lv < 0
    · rw [if_pos a]; simp [paviorlaw02_PteChanges.j0]
    · rw [if_neg a, show decide (lv > 3) = true by simp; omega]; simp [paviorlaw02_PteChanges.j0]
  · obtain ⟨a, b, ha, hb, he⟩ := change_yes 202 (by omega) lv x y (by omega) (by omega) x0 x1 y0 y1
    rw [he]
    simp only [Option.bind_some]
    rw [if_neg (by omega), show decide (lv > 3) = false by simp; omega]
    simp only [paviorlaw02_PteChanges.j0]
    rw [if_neg (by decide), ref_change 201 (by omega) lv x y x0 x1 y0 y1 a b ha hb]
    simp

end Go.Proofs.Ytobbcfpkmmafnab.Pure
