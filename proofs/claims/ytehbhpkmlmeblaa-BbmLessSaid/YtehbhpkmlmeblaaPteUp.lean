/- The head of layer 2's statements is true. -/
import Derived.Test.YtehbhpkmlmeblaaPteRef
namespace Go.Proofs.Ytehbhpkmlmeblaa.PteLib
open Go.RowKit Go.Proofs.YtehbhpkmlmeblaaW.PrintWords Go.Proofs.YtehbhpkmlmeblaaW.PrintLast Go.Proofs.YtehbhpkmlmeblaaW.PrintMore Go.Proofs.Ytehbhpkmlmeblaa.Bits Go.Proofs.Ytehbhpkmlmeblaa.Ref01 Go.Proofs.Ytehbhpkmlmeblaa.Q
set_option linter.unusedVariables false
set_option linter.unusedSimpArgs false

theorem decode_of (n : Nat) (hn : 3 ≤ n) {lv w k f : Int} {wr ex se fo : Bool} {so : Int} (h0 : 0 ≤ lv) (h3 : lv ≤ 3) (w0 : 0 ≤ w) (w1 : w < 18446744073709551616) (h : IsDec lv w (k, f, wr, ex, se, fo, so)) :
    pte_Decode.f n lv w = some (k, f, wr, ex, se, fo, so, none) := by
  obtain ⟨k', f', wr', ex', se', fo', so', he, hd⟩ := decode_yes n hn lv w h0 h3 w0 w1
  have := isDec_unique h hd
  simp only [Prod.mk.injEq] at this
  obtain ⟨rfl, rfl, rfl, rfl, rfl, rfl, rfl⟩ := this
  exact he
end Go.Proofs.Ytehbhpkmlmeblaa.PteLib
