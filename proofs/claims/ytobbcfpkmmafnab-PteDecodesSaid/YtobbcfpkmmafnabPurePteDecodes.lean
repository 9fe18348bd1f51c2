/- What any word says at any level is what the document's reference says: the pure statement of PteDecodes, for every level and word. -/
import Derived.Test.YtobbcfpkmmafnabPteUp
import Derived.Test.YtobbcfpkmmafnabQx7
namespace Go.Proofs.Ytobbcfpkmmafnab.Pure
open Go.RowKit Go.Proofs.Ytobbcfpkmmafnab.Q Go.Proofs.YtobbcfpkmmafnabW.PrintWords Go.Proofs.YtobbcfpkmmafnabW.PrintLast Go.Proofs.Ytobbcfpkmmafnab.PteLib Go.Proofs.Ytobbcfpkmmafnab.Bits
set_option linter.unusedVariables false
set_option linter.unusedSimpArgs false

theorem PteDecodes : paviorlaw02_PteDecodes.Pure := by
  intro lv w hlv hw
  obtain ⟨w0, w1⟩ := wf_u64.mp hw
  refine ⟨201, ?_⟩
  unfold paviorlaw02_PteDecodes.f
  rw [up_true 201 (by omega)]
  simp only [Option.bind_some]
  by_cases hl : lv < 0 ∨ 3 < lv
  · rw [decode_no 201 (by omega) lv w hl]
    simp only [Option.bind_some]
    by_cases a : lv < 0
    · rw [if_pos a]; simp [paviorlaw02_PteDecodes.j0]
    · rw [if_neg a, show decide (lv > 3) = true by simp; omega]; simp [paviorlaw02_PteDecodes.j0]
  · obtain ⟨k, f, wr, ex, se, fo, so, he, hd⟩ := decode_yes 201 (by omega) lv w (by omega) (by omega) w0 w1
    obtain ⟨k', f', wr', ex', se', fo', so', he', hd'⟩ := refDecode 200 (by omega) lv w w0 w1
    have := isDec_unique hd hd'
    simp only [Prod.mk.injEq] at this
    obtain ⟨rfl, rfl, rfl, rfl, rfl, rfl, rfl⟩ := this
    rw [he]
    simp only [Option.bind_some]
    rw [if_neg (by omega), show decide (lv > 3) = false by simp; omega]
    simp only [paviorlaw02_PteDecodes.j0]
    rw [if_neg (by decide), he']
    simp

end Go.Proofs.Ytobbcfpkmmafnab.Pure
