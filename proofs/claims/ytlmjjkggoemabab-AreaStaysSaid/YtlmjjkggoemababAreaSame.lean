/- Layer 9: two lists that are the same are told so. -/
import Derived.Test.YtlmjjkggoemababAreaUp
import Derived.Test.YtlmjjkggoemababQx11
namespace Go.Proofs.Ytlmjjkggoemabab.AreaUp
open Go.RowKit Go.Proofs.YtlmjjkggoemababW.PrintWords Go.Proofs.YtlmjjkggoemababW.PrintMore Go.Proofs.Ytlmjjkggoemabab.Bits Go.Proofs.Ytlmjjkggoemabab.Q Go.Proofs.Ytlmjjkggoemabab.AreaLib Go.Proofs.Ytlmjjkggoemabab.AreaEv
set_option linter.unusedVariables false
set_option linter.unusedSimpArgs false

/-! ### the same twice -/
theorem same_loop (l : List S32) (hl : l.length ≤ 4000) : ∀ (d i : Nat), i + d = l.length → Ev (fun k => paviorref09_Same.l0 k l l (i : Int)) true := by
  intro d
  induction d with
  | zero =>
    intro i hi
    refine ev_succ (ev_now (fun k => ?_))
    simp only [paviorref09_Same.l0]
    rw [if_neg (by omega)]
  | succ d ih =>
    intro i hi
    refine Ev.step (fun k => ?_) (ih (i + 1) (by omega))
    simp only [paviorref09_Same.l0]
    rw [if_pos (by omega), if_pos (by omega), if_pos (by omega), if_neg (by simp), wrap64_of (by omega) (by omega)]
    rfl
theorem same_ev (l : List S32) (hl : l.length ≤ 4000) : Ev (fun k => paviorref09_Same.f k l l) true := by
  have := same_loop l hl l.length 0 (by omega)
  unfold paviorref09_Same.f
  simp only [if_true]
  exact this
end Go.Proofs.Ytlmjjkggoemabab.AreaUp
