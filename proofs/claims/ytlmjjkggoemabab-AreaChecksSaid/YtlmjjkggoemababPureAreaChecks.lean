/- Whether any list of areas may be is what the document's reference says: the pure statement of AreaChecks (more than 200 areas are let go by the law itself). -/
import Derived.Test.YtlmjjkggoemababAreaUp
import Derived.Test.YtlmjjkggoemababQx9
namespace Go.Proofs.Ytlmjjkggoemabab.Pure
open Go.RowKit Go.Proofs.Ytlmjjkggoemabab.Q Go.Proofs.YtlmjjkggoemababW.PrintWords Go.Proofs.Ytlmjjkggoemabab.Bits Go.Proofs.Ytlmjjkggoemabab.AreaLib Go.Proofs.Ytlmjjkggoemabab.AreaEv Go.Proofs.Ytlmjjkggoemabab.AreaUp
set_option linter.unusedVariables false
set_option linter.unusedSimpArgs false

theorem area_checks (l : List S32) : Ev (fun k => paviorlaw09_AreaChecks.f k l) true := by
  unfold paviorlaw09_AreaChecks.f
  refine Ev.bind up_ev ?_
  by_cases hl : (l.length : Int) > 200
  · simp only [if_pos hl]
    exact ev_now (fun _ => rfl)
  · simp only [if_neg hl]
    refine Ev.bind (check_ev l (by omega)) ?_
    refine Ev.bind (may_ev l (by omega)) ?_
    refine ev_now (fun k => ?_)
    by_cases v : valid l
    · rw [if_pos v, decide_eq_true v]; rfl
    · rw [if_neg v, decide_eq_false v]; rfl

theorem AreaChecks : paviorlaw09_AreaChecks.Pure := fun l _ _ => Ev.rounds (area_checks l)

end Go.Proofs.Ytlmjjkggoemabab.Pure
