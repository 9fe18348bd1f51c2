import Derived.Test.YtmjnenjeckeklaaDoorBuddyAt
namespace Go.Proofs.YtmjnenjeckeklaaDoor.V
open Go Go.RowKit Go.Proofs Go.Proofs.YtmjnenjeckeklaaDoor.Q Go.Proofs.YtmjnenjeckeklaaDoorW.PrintWords
set_option linter.unusedVariables false
set_option linter.unusedSimpArgs false
set_option maxRecDepth 100000
theorem power_eq {o : Int} (h0 : 0 ≤ o) (h5 : o ≤ 5) : paviorref01_Power.f 1000 o = some (pw o) := by
  rcases pw_cases h0 h5 with ⟨rfl, e⟩ | ⟨rfl, e⟩ | ⟨rfl, e⟩ | ⟨rfl, e⟩ | ⟨rfl, e⟩ | ⟨rfl, e⟩ <;> rw [e] <;> kernel_rfl
end Go.Proofs.YtmjnenjeckeklaaDoor.V
