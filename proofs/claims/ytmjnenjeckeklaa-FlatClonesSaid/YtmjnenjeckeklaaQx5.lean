import Derived.Test.YtmjnenjeckeklaaBC
set_option linter.unusedSimpArgs false
namespace Go.Proofs.Ytmjnenjeckeklaa.Q
open Go Go.RowKit Go.Proofs.YtmjnenjeckeklaaW.PrintWords Go.Proofs.YtmjnenjeckeklaaW.PrintLast Go.Proofs.YtmjnenjeckeklaaW.PrintMore
set_option linter.unusedVariables false
def jx.f (k : Nat) (l0 : List (gu)) : Option (Option Int) := V.Check.f k l0
theorem jx.calls (k : Nat) (A0 : Option Addr) (c0 : Nat) (l0 : List (gu)) (r : Option Int) (w : World) (rD : V.Rk w A0 c0 l0) (hc0 : l0.length ≤ c0) (h : jx.f k l0 = some r) :
    Calls Try.prog 54 #[.slice A0 l0.length c0] w fun e w' => e = .returned (wN r) ∧ Below w.heap.size w w' := by
     refine (V.Check.ac k l0 r h (fun b => b < w.heap.size) w [.slice A0 l0.length c0] [] (.cons (F := []) (G := []) (.c rD.2) .nil) bu (by simp) (fun _ h => h)).mono ?_; rintro e w' ⟨rv, H1, H2, rfl, _, hr, _, _, hk⟩; refine ⟨?_, hk.below⟩
     cases hr with
     | one hr =>
      cases hr with
      | c hr => cases hr with
        | err _ => rw [V.yq]
     | many hl _ => exact absurd rfl hl
end Go.Proofs.Ytmjnenjeckeklaa.Q
