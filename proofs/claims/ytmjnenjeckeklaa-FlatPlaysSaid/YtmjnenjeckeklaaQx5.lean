import Derived.Test.YtmjnenjeckeklaaBC
namespace Go.Proofs.Ytmjnenjeckeklaa.Q
open Go Go.RowKit Go.Proofs.YtmjnenjeckeklaaW.PrintWords Go.Proofs.YtmjnenjeckeklaaW.PrintLast Go.Proofs.YtmjnenjeckeklaaW.PrintMore
set_option linter.unusedVariables false
def cO.f (k : Nat) (l0 : List (aG)) : Option (Option Int) := V.Check.f k l0
theorem cO.calls (k : Nat) (A0 : Option Addr) (c0 : Nat) (l0 : List (aG)) (r : Option Int) (w : World) (lC : V.Rk w A0 c0 l0) (hc0 : l0.length ≤ c0) (h : cO.f k l0 = some r) :
    Calls Try.prog 54 #[.slice A0 l0.length c0] w fun e w' => e = .returned (qh r) ∧ Below w.heap.size w w' := by
     refine (V.Check.ac k l0 r h (fun b => b < w.heap.size) w [.slice A0 l0.length c0] [] (.cons (F := []) (G := []) (.c lC.2) .nil) List.nodup_nil (by simp) (fun _ h => h)).mono ?_; rintro e w' ⟨rv, H1, H2, rfl, _, hr, _, _, hk⟩; refine ⟨?_, hk.below⟩
     cases hr with
     | one hr =>
      cases hr with
      | c hr => cases hr with
        | err _ => rw [V.rI]
     | many hl _ => exact absurd rfl hl
end Go.Proofs.Ytmjnenjeckeklaa.Q
