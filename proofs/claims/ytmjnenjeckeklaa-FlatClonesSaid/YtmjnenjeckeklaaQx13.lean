
import Derived.Test.YtmjnenjeckeklaaQx0
namespace Go.Proofs.Ytmjnenjeckeklaa.Q
open Go.RowKit Go.Proofs.YtmjnenjeckeklaaW.PrintWords Go.Proofs.YtmjnenjeckeklaaW.PrintLast Go.Proofs.YtmjnenjeckeklaaW.PrintMore
attribute [local go_sem] lW lX nr nu kV kW lY lZ
set_option linter.unusedVariables false
set_option linter.unusedSimpArgs false
attribute [local go_sem high] mo mq mu mw
def iS.f (a0 : Int) (a1 : Int) : Option (Int) := if a0 < 0 then (if a1 = 0 then (none) else (some (Int.tmod (wrap64 (-(wrap64 (a0 + 1)))) a1))) else (if a1 = 0 then (none) else (some (Int.tmod a0 a1)))
set_option maxHeartbeats 8000000 in
set_option maxRecDepth 100000 in
theorem iS.calls (a0 : Int) (a1 : Int) (r : Int) (w : World) (h : iS.f a0 a1 = some r) :
    Calls Try.prog 9 #[.int .i64 a0, .int .i64 a1] w fun e w' => e = .returned (.int .i64 r) ∧ iP w w' := by
     have H : (if a0 < 0 then (if a1 = 0 then (none) else (some (Int.tmod (wrap64 (-(wrap64 (a0 + 1)))) a1))) else (if a1 = 0 then (none) else (some (Int.tmod a0 a1)))) = some r := h; clear h; by_cases c3 : a0 < 0
     · rw [aj c3] at H; have c3b0 : decide (a0 < 0) = true := ay c3; clear c3; by_cases c4 : a1 = 0
       · rw [aj c4] at H; exact absurd H (by simp)
       · rw [ag c4] at H; have c4b0 : (a1 == 0) = false := dM.mpr c4; have c4b1 : (a1 != 0) = true := fl.mpr c4; obtain rfl := aZ H; go_enter Try.func9, Try.ntmps9; go_wp2; go_ret; exact ⟨by first | rfl | (simp; done) | (simp [*]; done), by repeat (first | exact iP.refl _ | apply iP.step)⟩
     · rw [ag c3] at H; have c3b0 : decide (a0 < 0) = false := aY c3; clear c3; by_cases c5 : a1 = 0
       · rw [aj c5] at H; exact absurd H (by simp)
       · rw [ag c5] at H; have c5b0 : (a1 == 0) = false := dM.mpr c5; have c5b1 : (a1 != 0) = true := fl.mpr c5; obtain rfl := aZ H; go_enter Try.func9, Try.ntmps9; go_wp2; go_ret; exact ⟨by first | rfl | (simp; done) | (simp [*]; done), by repeat (first | exact iP.refl _ | apply iP.step)⟩
end Go.Proofs.Ytmjnenjeckeklaa.Q
