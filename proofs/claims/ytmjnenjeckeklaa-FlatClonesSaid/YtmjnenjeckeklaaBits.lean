import Derived.Laws.BitsLemmas
import Derived.Test.YtmjnenjeckeklaaWMore
import Derived.Test.YtmjnenjeckeklaaWNEv
namespace Go.Proofs.Ytmjnenjeckeklaa.Bits
open Go.RowKit Go.Proofs.YtmjnenjeckeklaaW.PrintWords Go.Proofs.YtmjnenjeckeklaaW.PrintLast Go.Proofs.YtmjnenjeckeklaaW.PrintMore
set_option linter.unusedVariables false
set_option linter.unusedSimpArgs false
theorem lS {α : Type} {g : Nat → Option α} {r : α} (h : Ev (fun k => g (k + 1)) r) : Ev g r := Ev.step (fun _ => rfl) h
theorem mC {α : Type} {g : Nat → Option α} {r : α} (h : ∀ k, g k = some r) : Ev g r := Ev.congr h (Ev.now r)
theorem wf_i64 {n : Int} : (Lit.int .i64 n).wf = true ↔ -9223372036854775808 ≤ n ∧ n ≤ 9223372036854775807 := by
 have h0 : IntKind.i64.min = -9223372036854775808 := by decide
 have h1 : IntKind.i64.max = 9223372036854775807 := by decide
 rw [Lit.wf, h0, h1]; simp only [ai, au]
theorem j8 {n : Int} (h0 : -9223372036854775808 ≤ n) (h1 : n ≤ 9223372036854775807) : wrap64 n = n := by unfold wrap64; omega
end Go.Proofs.Ytmjnenjeckeklaa.Bits
