/- Layer 9: an error's number. -/
import Derived.Test.YtlmjjkggoemababAreaUp
import Derived.Test.YtlmjjkggoemababQx14
namespace Go.Proofs.Ytlmjjkggoemabab.AreaUp
open Go.RowKit Go.Proofs.YtlmjjkggoemababW.PrintWords Go.Proofs.YtlmjjkggoemababW.PrintMore Go.Proofs.Ytlmjjkggoemabab.Bits Go.Proofs.Ytlmjjkggoemabab.Q Go.Proofs.Ytlmjjkggoemabab.AreaLib Go.Proofs.Ytlmjjkggoemabab.AreaEv
set_option linter.unusedVariables false
set_option linter.unusedSimpArgs false
theorem code_ev (u : Option Int) : Ev (fun _ => paviorlaw00_Code.f u) (paviorlaw00_Code.of u) := ev_now (fun _ => rfl)
theorem fin_errs (z : List S32) : (fin z).2 = none ∨ (fin z).2 = some 1 ∨ (fin z).2 = some 5 ∨ (fin z).2 = some 3 := by
  unfold fin
  by_cases c : z.length ≤ 64
  · rw [if_pos c]; exact .inl rfl
  · rw [if_neg c]; exact .inr (.inr (.inl rfl))
theorem fin_len (z : List S32) : (fin z).1.length ≤ 64 := by
  unfold fin
  by_cases c : z.length ≤ 64
  · rw [if_pos c]; exact c
  · rw [if_neg c]; exact Nat.zero_le _
end Go.Proofs.Ytlmjjkggoemabab.AreaUp
