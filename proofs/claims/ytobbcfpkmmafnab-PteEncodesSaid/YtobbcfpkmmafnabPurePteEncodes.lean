/- The word that says anything at any level, or that none does, is what the document's reference says: the pure statement of PteEncodes, for every level and descriptor. -/
import Derived.Test.YtobbcfpkmmafnabPteUp
import Derived.Test.YtobbcfpkmmafnabQx7
namespace Go.Proofs.Ytobbcfpkmmafnab.Pure
open Go.RowKit Go.Proofs.Ytobbcfpkmmafnab.Q Go.Proofs.YtobbcfpkmmafnabW.PrintWords Go.Proofs.YtobbcfpkmmafnabW.PrintLast Go.Proofs.Ytobbcfpkmmafnab.PteLib Go.Proofs.Ytobbcfpkmmafnab.Bits
set_option linter.unusedVariables false
set_option linter.unusedSimpArgs false

theorem PteEncodes : paviorlaw02_PteEncodes.Pure := by
  intro lv k f wr ex se fo so hlv hd
  refine ⟨201, ?_⟩
  unfold paviorlaw02_PteEncodes.f
  rw [up_true 201 (by omega), refMay 201 (by omega)]
  by_cases hm : MayP lv k f wr ex se fo so
  · rw [encode_yes 201 (by omega) lv k f wr ex se fo so hm, refWord 201 (by omega) k f wr ex se fo so hm.2.2.1 hm.2.2.2.1 hm.2.2.2.2.1 hm.2.2.2.2.2.1]
    simp [hm]
  · rw [encode_no 201 (by omega) lv k f wr ex se fo so hm]
    simp [hm]

end Go.Proofs.Ytobbcfpkmmafnab.Pure
