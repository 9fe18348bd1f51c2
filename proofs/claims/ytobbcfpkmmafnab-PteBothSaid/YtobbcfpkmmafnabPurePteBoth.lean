/- Changes that may be go both ways, and by way of a word that isn't valid all may be: the pure statement of PteBoth, for every level and two words. -/
import Derived.Test.YtobbcfpkmmafnabPteChange
import Derived.Test.YtobbcfpkmmafnabQx12
namespace Go.Proofs.Ytobbcfpkmmafnab.Pure
open Go.RowKit Go.Proofs.Ytobbcfpkmmafnab.Q Go.Proofs.YtobbcfpkmmafnabW.PrintWords Go.Proofs.YtobbcfpkmmafnabW.PrintLast Go.Proofs.Ytobbcfpkmmafnab.PteLib Go.Proofs.Ytobbcfpkmmafnab.Bits
set_option linter.unusedVariables false
set_option linter.unusedSimpArgs false

theorem PteBoth : paviorlaw02_PteBoth.Pure := by
  intro lv x y hlv hx hy
  obtain ⟨x0, x1⟩ := wf_u64.mp hx
  obtain ⟨y0, y1⟩ := wf_u64.mp hy
  refine ⟨10, ?_⟩
  unfold paviorlaw02_PteBoth.f
  rw [up_true 10 (by omega)]
  simp only [Option.bind_some]
  by_cases hl : lv < 0 ∨ 3 < lv
  · rw [change_no 10 (by omega) lv x y hl, change_no 10 (by omega) lv y x hl, change_no 10 (by omega) lv x 0 hl, change_no 10 (by omega) lv 0 y hl]
    simp
  · obtain ⟨a, b, ha, hb, he⟩ := change_yes 10 (by omega) lv x y (by omega) (by omega) x0 x1 y0 y1
    obtain ⟨b', a', hb', ha', he'⟩ := change_yes 10 (by omega) lv y x (by omega) (by omega) y0 y1 x0 x1
    obtain ⟨a2, z, ha2, hz, h2⟩ := change_yes 10 (by omega) lv x 0 (by omega) (by omega) x0 x1 (by omega) (by omega)
    obtain ⟨z', b2, hz', hb2, h3⟩ := change_yes 10 (by omega) lv 0 y (by omega) (by omega) (by omega) (by omega) y0 y1
    rw [isDec_unique ha' ha, isDec_unique hb' hb] at he'
    rw [he, he', h2, h3, change_sym b a y x]
    simp [changeB]

end Go.Proofs.Ytobbcfpkmmafnab.Pure
